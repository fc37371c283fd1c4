/- Part S1. -/
import Derived.Test.YtepembddmcabhaaGreatDoorCh
set_option linter.unusedVariables false
namespace Go.Px
open Sum (inl inr elim)
open Go.Proofs
set_option maxRecDepth 100000
set_option maxHeartbeats 4000000
noncomputable section
abbrev kg(a:q8):=q8.mk a.k_ a.T_ a.N_ a.a_ a.K_
abbrev kr(a:q6):=q6.mk a.k_ a.T_ a.N_ a.a_ a.K_
abbrev zJ:=Int×Int
abbrev zU:=Ua×zJ
abbrev G0:=Int×zU
abbrev XM:=q7×G0×G0
abbrev G4:=Sl q8
abbrev Y5:=q7×G0×G0×G4
abbrev tA0:=zJ×XM⊕Y5⊕XM
abbrev Gv:=Int×Int×Ua×Ua×Ua×Int×Ua×Int×Int×Bool
abbrev zoc:=Gv×Sl ql
abbrev tA1:=Gv×zoc
abbrev GC:=Sl qa
abbrev G1:=zU×Sl qn×Sl qt
abbrev zoj:=GC×q8×G4×G4×G1
abbrev zao:=zJ×G1⊕G1
abbrev tA2:=zoj->Uc zao
abbrev G8:=Sl qb
abbrev GA:=Sl qj×Sl qq
abbrev G6:=Sl q6
abbrev GD:=Int×Int×G8×zU×G6×G6×zU×Sl Int×GA
abbrev tA4:=Int×Int×G8×zU×GA⊕GD
abbrev tA5:=Gv×Gv
abbrev G5:=Int×Int×zJ
abbrev GQ:=Sl q9
abbrev zkY:=G5×GQ×G0×G0
abbrev tA6:=G5×GQ×G0×G6⊕zkY
abbrev Gx:=Ua×zU
abbrev GL:=Int×Int×Gx
abbrev GW:=Sl qf
abbrev GF:=Int×Int×q6×Gx×Gx×q6×qf×GW
abbrev tA7:=GL⊕G8×GF
abbrev GO:=Sl qc
abbrev Gw:=(Sl qd×GC×zJ)×GO
abbrev zom:=G4×(Int×zJ)×Gw
abbrev zO:=zJ×Gw⊕Gw
abbrev GH:=Uc zO
abbrev tA8:=zom->GH
abbrev zou:=q8×G4×G1
abbrev tA9:=zou->Uc zao
abbrev GJ:=Int×Int×q6×Gx×Gx×q6×GW
abbrev zx4:=GL⊕G8×GJ
abbrev zih:=Bool×Int×Gw
abbrev zor:=q8×zih
abbrev zs2:=zor->GH
abbrev GV:=Int×Int×G8×zU×Sl qj
abbrev GE:=Int×G8×zU×G6×G6×q6×zU×q6×Sl qj
abbrev zx5:=GV⊕GE
abbrev zoA:=Ua×Gw
abbrev WA:=zJ×Gw⊕qg×Gw
abbrev zx6:=zoA->Uc WA
abbrev zow:=Ua×qg×Gw
abbrev zs3:=zow->GH
abbrev GT:=Sl qd×GC×Int
abbrev Gy:=GT×GO
abbrev zoR:=q8×Gy
abbrev zY:=Ua×Int
abbrev GR:=Sl qg
abbrev zkW:=zJ×Gy⊕zY×GT×GO×GR
abbrev zs4:=zoR->Uc zkW
abbrev zx7:=GL⊕GC×Int×q8×Gx×Gx×GR
abbrev zx8:=GL⊕G8×Int×q6×Gx×Gx×GW
abbrev Wy:=zih->GH
abbrev zoF:=q8×qg×Gw
abbrev zeU:=zoF->GH
abbrev zdE:=q8×Gw
abbrev zn0:=zdE->Uc WA
abbrev zob:=qg×Gw⊕zJ×Gw
abbrev zs5:=zdE->Uc zob
abbrev zuv:=G4×Gw
abbrev zbQ:=zuv->GH
abbrev GM:=G8×zU×G6×G6×q6×zU×Sl qj
abbrev zya:=GV⊕GM
abbrev GS:=Sl qi
abbrev G7:=Sl Ua
abbrev G3:=Int×Int×(Ua×G7×Ua×Int×GR×Sl qd×GO×GC)×Sl qp×GS
abbrev zn2:=Int×Int×Int×Int×GS×G3
abbrev zyb:=Int×Int×G8×zU×GA⊕G8×zU×zU×GA
abbrev zin:=Bool×Int×Gy
abbrev zoz:=q8×zin
abbrev xO:=zJ×Gy⊕Gy
abbrev zkU:=zoz->Uc xO
abbrev GB:=Int×GT×GO×q8×zY×zY×GR
abbrev zyc:=zJ×Gy⊕GB
abbrev zs7:=zin->Uc xO
abbrev zg:=zJ×q7
abbrev zs8:=zg⊕q7×G0×G4⊕XM
abbrev Y6:=G0×Int×Int×G4
abbrev VV:=zJ×Y6
abbrev zyf:=VV->Uc Y6
abbrev zs9:=G8×Int×GF
abbrev ztb:=GC×Int×G4×Int×Int×q8×Gx×Gx×GR
abbrev zC:=G5×GQ
abbrev Yd:=Int×zC
abbrev V1:=G5×GQ×G6
abbrev ZH:=G0×V1
abbrev zn3:=Yd->Uc ZH
abbrev ztc:=G8×Int×GJ
abbrev Yt:=zC->Uc ZH
abbrev ztd:=Int×G5×GQ×G0×G0×G7
abbrev zn4:=Int×GD
abbrev zyh:=Int×Int×G3
abbrev zyi:=VV⊕Y6
abbrev zte:=Int×Int×Int×G8×zU×G6×G6×zU×Sl qq×GA
abbrev Gz:=Sl qh×G8×zJ
abbrev GN:=Sl qe
abbrev Zz:=Gz×GN
abbrev zf2:=q6×Zz
abbrev zie:=zY×Gz×GN×GW
abbrev ztf:=zf2->Uc zie
abbrev GU:=zU×Sl qn×Sl qt×q8×zJ
abbrev zyj:=zJ×G1⊕GU
abbrev wY:=G4×Int×Int×(Sl qd×GC×zJ)×GO×qg
abbrev zc6:=zJ×Gw⊕wY
abbrev zyk:=Y6->Uc Y6
abbrev xA:=G5×GQ×G0×G0×G6
abbrev Vr:=Bool×xA
abbrev zn5:=Int×G4×Int×GB
abbrev zyl:=Int×Bool×GS×q8×Gv
abbrev GY:=q8×zU×G4×zU×Sl qn
abbrev zn6:=GC×G4×G4×Int×Int×GY
abbrev Yc:=G0×zC
abbrev Wz:=zC->Uc Yc
abbrev zn7:=G8×Int×Int×q6×Gx×Gx×GW
abbrev zbR:=q6->Uc zoc
abbrev Y7:=Int×zf2
abbrev WI:=Int×Zz
abbrev vk:=qf×WI
abbrev zkV:=Y7->Uc vk
abbrev zeV:=G0×G5×G0×GQ×G6
abbrev zn8:=Int×GE
abbrev zyo:=zg⊕q7×G0×G4⊕q7×q8×G0
abbrev zkX:=Int×Int×G8×zU×G6×G6×zU×GA
abbrev W5:=GS×Gv×Sl qw
abbrev zyr:=Int×Gz×GN×q6×zY×zY×GW
abbrev zth:=Int×zyr
abbrev zti:=Y7->Uc WI
abbrev zyp:=zJ⊕GC×G4×GY
abbrev zuk:=Int×G6×Zz
abbrev zbS:=zuk->Uc Zz
abbrev GI:=GO×Gz×GN×Sl q1d×Sl q18
abbrev zn9:=Int×G4×Int×Int×qz×q6×GI
abbrev zij:=Int×WI
abbrev zc7:=zij->Uc Zz
abbrev ztl:=zg⊕q7×q8⊕XM
abbrev zbT:=zg⊕Y5
abbrev ztm:=G4×G4×Int×Int×zU×G1
abbrev Y8:=Ua×zC
abbrev zW:=Bool×zC
abbrev yb:=Y8->Uc zW
abbrev zoa:=Int×GM
abbrev zys:=GS×Gv
abbrev zid:=Bool×XM
abbrev zod:=Ua×Int×zid
abbrev zyt:=Int×Gz×GN×qf⊕Gz×GN×qf
abbrev XU:=Y8->Uc zC
abbrev zfX:=G4×G4×Int×Int×GU
abbrev Zt:=q6×zC
abbrev ztS:=Zt->Uc Zt
abbrev GX:=Sl qh×(GC×G8)×G4×G6
abbrev zh8:=Int×Int×G4×Int×Int×Sl qd×q6×GX
abbrev zoe:=zC->Uc V1
abbrev GP:=Int×q7
abbrev yr:=q7×G4
abbrev Zk:=zg⊕G0×yr
abbrev zh9:=GP->Uc Zk
abbrev wX:=Yd->Uc zC
abbrev zia:=zC->Uc Yd
abbrev zof:=G4×Int×Int×wY
abbrev ziv:=Ua×zY×GW
abbrev zdJ:=Int×zY×GW
abbrev ztV:=ziv->Uc zdJ
abbrev X8:=zC->Uc Zt
abbrev zbU:=WI⊕Zz
abbrev ztW:=zJ⊕zU×G1
abbrev ztX:=Y8⊕zC
abbrev zic:=zJ×q8×zJ⊕q8×Int×Int×Gy
abbrev ZQ:=q7->Uc Zk
abbrev zt7:=G0×yr⊕zg
abbrev zog:=q7->Uc zt7
abbrev zoh:=(Int×zJ)×G4×Int×Int×Gw
abbrev zfZ:=zJ⊕G1
abbrev ztY:=GC×q8->Uc zfZ
abbrev ztZ:=Zz⊕Zz
abbrev zt1:=Int×qz×GI
abbrev Z1:=zg⊕G0×q7
abbrev X9:=q7->Uc Z1
abbrev VU:=G4×Int×Int×q8×Int×Int×Gy
abbrev zox:=Int×Int×Gz×GN×q6
abbrev zok:=Int×G6×zox
abbrev zpf:=q6×Sl qh×G8
abbrev zt4:=zpf->Uc Zz
abbrev zuu:=Ua×Ua×G7×GS
abbrev zfY:=G4×Int×Int×zuu
abbrev zol:=GR×G4×Int×Int×Gw
abbrev zoJ:=Int×G6×(Int×zJ)×GN
abbrev Z3:=Int×GN
abbrev GZ:=Uc Z3
abbrev zt6:=zoJ->GZ
abbrev VW:=zg⊕q7×q8⊕q7×G0
abbrev xc:=Int×Int×GC
abbrev zt8:=zJ×q8×xc⊕q8×xc
abbrev ziy:=zJ×xc
abbrev zt9:=ziy->Uc xc
abbrev Ye:=Int×Int×GO
abbrev ziC:=zJ×Ye
abbrev zon:=ziC->Uc Ye
abbrev zua:=Int×Int×Sl qd×GX
abbrev zub:=zdJ⊕zY×GW
abbrev zop:=Int×Int×Gz×GN×q6×qf
abbrev zue:=zg⊕q7×q8×G0
abbrev zdy:=Int×G6×WI
abbrev zdz:=G0×Int×Int×yr
abbrev xa:=Ua×Ua
abbrev zoq:=Ua×(Ua×xa)×Int
abbrev zos:=Int×Int×Int×Int×Int×q6×Sl qk×q6×Sl qk
abbrev zum:=Int×q6×Ua×Ua×G7
abbrev zot:=Int×zum
abbrev zf8:=Bool×Sl qp×Sl qr
abbrev zif:=xa->Uc zf8
abbrev zov:=Int×G5×GQ×G7
abbrev zig:=G4×GR×Gw
abbrev zb0:=Int×Ua×GN
abbrev V7:=qf×Z3
abbrev zug:=zb0->Uc V7
abbrev V3:=Ua×G5
abbrev zui:=V3->Uc (Sl qt)
abbrev zdA:=V3->Uc (Sl qq)
abbrev zoY:=Int×G6×GW×GN
abbrev zuj:=zoY->GZ
abbrev zi1:=qz×q1l×Bool
abbrev zul:=xa->Uc zi1
abbrev w5:=Ua×q7
abbrev Z9:=zg⊕q7
abbrev Xg:=w5->Uc Z9
abbrev vn:=zg⊕GP
abbrev zii:=GP->Uc vn
abbrev zuH:=w5⊕zg
abbrev zoy:=q7->Uc zuH
abbrev zpe:=q8×Sl qd×GC
abbrev zun:=zpe->Uc Ye
abbrev zf6:=zg⊕qm×q7
abbrev zuo:=GP->Uc zf6
abbrev zoB:=(Ua×xa)×GP
abbrev zup:=xc->Uc xc
abbrev zoC:=Ye->Uc Ye
abbrev zoD:=zb0->GZ
abbrev zoT:=Ua×G7×Sl qk
abbrev zbW:=q6->Uc zoT
abbrev ZR:=zg⊕q8×q7
abbrev zoE:=q8×q7->Uc ZR
abbrev zoG:=Int×G6×(Int×zJ)×Z3
abbrev XN:=G4×Ua
abbrev yy:=Int×Ua
abbrev zus:=XN->Uc yy
abbrev VY:=Ua×Int×Int×Int×Bool×q9×q9
abbrev zoH:=G5×GQ×q6×G6
abbrev wa:=q6×G8
abbrev ziO:=qb×Int×Int×G8
abbrev zut:=wa->Uc ziO
abbrev zpa:=Int×q6×qf×GN
abbrev zdB:=zpa->GZ
abbrev yQ:=zg⊕yr
abbrev YT:=q7->Uc yQ
abbrev ziZ:=Bool×q8×Int
abbrev yI:=zJ⊕Unit
abbrev zdC:=ziZ->Uc yI
abbrev zdD:=Int×Yd
abbrev zoI:=Ua×zdJ
abbrev zi2:=qa×Ua
abbrev Z2:=Bool×Ua
abbrev zuw:=zi2->Uc Z2
abbrev V8:=q8×Ua
abbrev zim:=V8->Uc Z2
abbrev zf1:=G4×Int×Int×q8×xc
abbrev zi5:=qg×Ua
abbrev zux:=zi5->Uc Z2
abbrev zio:=zU->Uc (qm×Int)
abbrev zoZ:=q8×q7⊕zg
abbrev zip:=q7->Uc zoZ
abbrev YU:=q7->Uc ZR
abbrev Xi:=GR×qg
abbrev V6:=Bool×Xi
abbrev zir:=Xi->Uc V6
abbrev vt:=q8×GC
abbrev ziV:=Int×Int×Sl qd
abbrev zuz:=vt->Uc ziV
abbrev ziW:=Int×Int×Sl qh
abbrev zuA:=wa->Uc ziW
abbrev zuB:=Int×Int×Int×Int×q6×Sl qk×q6
abbrev zpg:=Int×Int×Sl qm
abbrev zis:=Ua->Uc zpg
abbrev WL:=Int×Xi
abbrev zuC:=Xi->Uc WL
abbrev zit:=Ua->Uc (Int×Int×GQ)
abbrev zga:=Int×GO×q8
abbrev zoK:=GO×q8->Uc zga
abbrev ziK:=G7×Ua
abbrev G9:=Uc Int
abbrev zuE:=ziK->G9
abbrev V2:=GP->Uc zg
abbrev zoL:=G7×zU
abbrev zi3:=qd×zJ
abbrev zuF:=vt->Uc zi3
abbrev zi4:=qh×zJ
abbrev zuG:=wa->Uc zi4
abbrev zoN:=Int×Int×Int×q6×Sl qk×Sl qk
abbrev zoO:=Int×Int×qz×q1l×Sl qp×Sl qr
abbrev GG:=Uc Bool
abbrev zoP:=xa->GG
abbrev zI:=Bool×q7
abbrev Zu:=w5->Uc zI
abbrev zo5:=qa×Ua×G4
abbrev zdG:=zo5->G9
abbrev zoQ:=zY->Uc (q9×Int)
abbrev zdH:=Ua->Uc (q8×zJ)
abbrev zdI:=Ua->Uc (q6×zJ)
abbrev zi7:=G4×G4
abbrev zf3:=G4×Int×Int×zi7
abbrev zix:=GC×G4×ziV
abbrev vq:=Int×GS
abbrev zf4:=qi×GS->Uc vq
abbrev zoS:=Int×G6×GW×Z3
abbrev zoU:=XN->GG
abbrev zf5:=Ua×Int×Int×q9×q9
abbrev zgb:=qf×Bool
abbrev ziz:=wa->Uc zgb
abbrev ziA:=q8->Uc xc
abbrev ziB:=q6->Uc (Int×Int×G8)
abbrev zb4:=GR×qp
abbrev vu:=Bool×qp
abbrev zuI:=zb4->Uc vu
abbrev zb1:=GC×Ua
abbrev zbZ:=zb1->G9
abbrev zuJ:=vt->Uc (qg×Int)
abbrev ziT:=G8×Ua
abbrev vm:=ziT->G9
abbrev ziU:=G6×Ua
abbrev zdK:=ziU->G9
abbrev ziD:=Ua->Uc (qz×Bool)
abbrev zuL:=GO×qi->Uc (Int×qi)
abbrev zuM:=zJ⊕Ua×Sl qm
abbrev zoV:=GC×Int×yy
abbrev zdL:=G4×Int×yy
abbrev ziE:=WL⊕Xi
abbrev zuN:=zJ⊕Ua×GQ
abbrev zoW:=GR×Int×yy
abbrev zuO:=zga⊕GO×q8
abbrev yH:=q8×GS->Uc GS
abbrev zoX:=Int×Ua×Z3
abbrev wZ:=zY->G9
abbrev ziF:=Ua->Uc Ua
abbrev w7:=Bool×qg
abbrev ziG:=qg×qg->Uc w7
abbrev zgc:=Bool×q8
abbrev zuP:=qd×q8->Uc zgc
abbrev zgd:=Bool×qi
abbrev zuQ:=qc×qi->Uc zgd
abbrev zuR:=qg×qp->Uc vu
abbrev V5:=yy⊕Ua
abbrev zdN:=q8->Uc zi7
abbrev ziH:=qc×Ua->G9
abbrev vo:=q6×Int->Uc (Sl qk)
abbrev ziI:=zg⊕q7×q8
abbrev zdP:=q6×Int->Uc G6
abbrev zo0:=G4×Int×Int×Sl qw
abbrev zo1:=G4×Int×vq
abbrev ziJ:=qr×Int×Int×Int×qk
abbrev ziL:=G8×Int×q6×Sl qh
abbrev WK:=Ua->GG
abbrev zf7:=Ua×Int×Sl qm
abbrev zo2:=Int×G4×zJ
abbrev vp:=Ua×Int×GQ
abbrev zo3:=G8×zY
abbrev zo4:=G6×zY
abbrev zdR:=qp->Uc zJ
abbrev zdS:=Int×WL
abbrev ziN:=Int×Int×q6×G6
abbrev zo6:=Sl qd×Int×Int×q8
abbrev zo7:=Int×zga
abbrev zdT:=Int×Int×q6×Sl qk
abbrev zo8:=GO×Int×Int×qi
abbrev zo9:=GR×Int×Int×qp
abbrev ziP:=GS×Int×Int×qp
abbrev xb:=q7->Uc (qm×q7)
abbrev zpb:=q8×Int->Uc qw
abbrev ziR:=zJ⊕qr×Int
abbrev ziS:=q8->Uc (Sl qw)
abbrev zdU:=Z3⊕GN
abbrev zpc:=G6×Int×Sl ql
abbrev zpd:=qr×Int×Int×qk
abbrev zf9:=Unit->GG
abbrev zS:=Int->GG
abbrev ziX:=GR×Ua
abbrev zph:=Int×Int×Sl qp
abbrev ziY:=Int×wa
abbrev XO:=q8->G9
abbrev XP:=q6->G9
abbrev zi0:=q8×q8×GS
abbrev zb2:=q8->Uc q1d
abbrev zdV:=Int×GP
abbrev zb3:=q8->Uc qw
abbrev zi6:=q8->Uc q8
abbrev w6:=q6->Uc ql
abbrev zdW:=Int⊕Unit
abbrev zdX:=qg×GC
abbrev zg2:=zbQ
abbrev wW:=Yt
abbrev zg3:=zbS
abbrev zdO:=yH
abbrev zdQ:=vo
abbrev Zv:=Ua
theorem eqT {α:Type}{a b c d:α}(h:a=b) (k:b=c) (l:c=d):a=d:=h.trans (k.trans l)
def qer (x:Int):GG:=some (decide (x≠10))
def qbk:zS:=qer
theorem qjn:@Eq zS P0.F qbk:=by kernel_rfl
def qiu (A:zS):zY->Uc (Step zY Int):=fun a=>(if decide (a.2 < (↑(ByteArray.size a.1):Int))=true then (Zf a.1 a.2).bind fun b=>(A b).bind fun c=>some (a.1,a.2,c) else some (a.1,a.2,false)).bind fun b=>if b.2.2=true then some (Step.next (b.1,Ud (b.2.1+1))) else some (Step.done b.2.1)
def qfo (A:zS) (x:zY):G9:=(lpO (qiu A) x).bind fun a=>some a
def qbe:zY->G9:=qfo qbk
theorem qj4:@Eq ((zY)->Uc Int) P1.F qbe:=by delta qbe;rw [<-qjn];kernel_rfl
def qg2 (x:Int):GG:=(if decide (48<=x)=true then some (decide (x<=57)) else some false).bind fun a=>some a
def qa2:zS:=qg2
theorem qgf:@Eq zS P2.F qa2:=by kernel_rfl
def q6c (A:zS):zY->Uc (Step zY Int):=fun a=>(if decide (a.2 < (↑(ByteArray.size a.1):Int))=true then (Zf a.1 a.2).bind fun b=>(A b).bind fun c=>some (a.1,a.2,c) else some (a.1,a.2,false)).bind fun b=>if b.2.2=true then some (Step.next (b.1,Ud (b.2.1+1))) else some (Step.done b.2.1)
def qg6 (A:zS) (x:zY):G9:=(lpO (q6c A) x).bind fun a=>some a
def qcx:zY->G9:=qg6 qa2
theorem qjl:@Eq ((zY)->Uc Int) P3.F qcx:=by delta qcx;rw [<-qgf];kernel_rfl
def qd0:=XY
theorem qiv:F4=qd0:=rfl
def qfq (x:Int):GG:=(if decide (97<=x)=true then if decide (x<=122)=true then some true else some (decide (x=95)) else some (decide (x=95))).bind fun a=>some a
def q8d:zS:=qfq
theorem qg7:@Eq zS P5.F q8d:=by kernel_rfl
def qfs (A:zU->Uc (Int⊕Int)) (B:zS) (x:zU):Uc (qm×Int):=(ZI x.1 x.2.1 x.2.2).bind fun a=>((A (a,10,64)).bind fun b=>elim (fun c=>some (inl (x.1,x.2.1,x.2.2,a,c,qm.mk 0 (lit []) 0 0))) (fun c=>some (inr (x.1,x.2.1,x.2.2,a,c,qm.mk 0 (lit []) 0 0))) b).bind fun b=>elim (fun c=>if decide (1099511627776 < c.2.2.2.2.1)=true then some (qm.mk 0 (lit []) 0 0,12) else if decide (1 < (↑(ByteArray.size c.2.2.2.1):Int))=true then (Zf c.2.2.2.1 0).bind fun d=>if decide (d=48)=true then some (qm.mk 0 (lit []) 0 0,12) else if decide (c.2.2.1 < (↑(ByteArray.size c.1):Int))=true then (Zf c.1 c.2.2.1).bind fun e=>(B e).bind fun i=>if i=true then some (qm.mk 0 (lit []) 0 0,12) else some (qm.mk 3 c.2.2.2.1 c.2.2.2.2.1 c.2.1,0) else some (qm.mk 3 c.2.2.2.1 c.2.2.2.2.1 c.2.1,0) else if decide (c.2.2.1 < (↑(ByteArray.size c.1):Int))=true then (Zf c.1 c.2.2.1).bind fun j=>(B j).bind fun l=>if l=true then some (qm.mk 0 (lit []) 0 0,12) else some (qm.mk 3 c.2.2.2.1 c.2.2.2.2.1 c.2.1,0) else some (qm.mk 3 c.2.2.2.1 c.2.2.2.2.1 c.2.1,0)) (fun c=>some (qm.mk 0 (lit []) 0 0,12)) b
def qcz:zU->Uc (qm×Int):=qfs qd0 q8d
theorem qjx:@Eq ((zU)->Uc (qm×Int)) P6.F qcz:=by delta qcz;rw [<-qiv,<-qg7];kernel_rfl
def qfr (A:zS) (B:zS) (x:Int):GG:=((A x).bind fun a=>if a=true then some true else (B x).bind fun b=>some b).bind fun a=>some a
def qcy:zS:=qfr q8d qa2
theorem qjy:@Eq zS P7.F qcy:=by delta qcy;rw [<-qg7,<-qgf];kernel_rfl
def qj5 (A:zS):zY->Uc (Step zY Int):=fun a=>(if decide (a.2 < (↑(ByteArray.size a.1):Int))=true then (Zf a.1 a.2).bind fun b=>(A b).bind fun c=>some (a.1,a.2,c) else some (a.1,a.2,false)).bind fun b=>if b.2.2=true then some (Step.next (b.1,Ud (b.2.1+1))) else some (Step.done b.2.1)
def qfy (A:zS) (x:zY):G9:=(lpO (qj5 A) x).bind fun a=>some a
def qc0:zY->G9:=qfy qcy
theorem qji:@Eq ((zY)->Uc Int) P8.F qc0:=by delta qc0;rw [<-qjy];kernel_rfl
def qg3 (x:Zv):GG:=(if decide (x=lit [116,121,112,101])=true then some (decide (x=lit [116,121,112,101])) else (if decide (x=lit [102,110])=true then some (decide (x=lit [102,110])) else (if decide (x=lit [111,119,110])=true then some (decide (x=lit [111,119,110])) else (if decide (x=lit [99,101,108,108])=true then some (decide (x=lit [99,101,108,108])) else (if decide (x=lit [99,111,117,110,116,101,100])=true then some (decide (x=lit [99,111,117,110,116,101,100])) else (if decide (x=lit [108,111,99,107])=true then some (decide (x=lit [108,111,99,107])) else (if decide (x=lit [103,117,97,114,100])=true then some (decide (x=lit [103,117,97,114,100])) else (if decide (x=lit [119,104,101,114,101])=true then some (decide (x=lit [119,104,101,114,101])) else (if decide (x=lit [105,110,116])=true then some (decide (x=lit [105,110,116])) else (if decide (x=lit [109,117,116])=true then some (decide (x=lit [109,117,116])) else (if decide (x=lit [102,114,101,101])=true then some (decide (x=lit [102,114,101,101])) else (if decide (x=lit [117,110,108,111,99,107])=true then some (decide (x=lit [117,110,108,111,99,107])) else (if decide (x=lit [105,102])=true then some (decide (x=lit [105,102])) else (if decide (x=lit [101,108,115,101])=true then some (decide (x=lit [101,108,115,101])) else (if decide (x=lit [119,104,105,108,101])=true then some (decide (x=lit [119,104,105,108,101])) else (if decide (x=lit [114,101,116,117,114,110])=true then some (decide (x=lit [114,101,116,117,114,110])) else (if decide (x=lit [97,98,111,114,116])=true then some (decide (x=lit [97,98,111,114,116])) else (if decide (x=lit [102,111,114,107])=true then some (decide (x=lit [102,111,114,107])) else (if decide (x=lit [110,101,119])=true then some (decide (x=lit [110,101,119])) else some (decide (x=lit [97,114,114,97,121]))).bind fun a=>some a).bind fun a=>some a).bind fun a=>some a).bind fun a=>some a).bind fun a=>some a).bind fun a=>some a).bind fun a=>some a).bind fun a=>some a).bind fun a=>some a).bind fun a=>some a).bind fun a=>some a).bind fun a=>some a).bind fun a=>some a).bind fun a=>some a).bind fun a=>some a).bind fun a=>some a).bind fun a=>some a).bind fun a=>some a).bind fun a=>if a=true then some true else some false
def qdj:WK:=qg3
theorem qk3:@Eq WK P9.F qdj:=by kernel_rfl
def qge (A:WK) (x:zU):Uc (qm×Int):=(ZI x.1 x.2.1 x.2.2).bind fun a=>if decide (16 < (↑a.size:Int))=true then some (qm.mk 0 (lit []) 0 0,13) else (A a).bind fun b=>(if b=true then some (qm.mk 0 (lit []) 0 0,qm.mk 2 a 0 x.2.1) else some (qm.mk 0 (lit []) 0 0,qm.mk 1 a 0 x.2.1)).bind fun c=>some (c.2,0)
def qes:zU->Uc (qm×Int):=qge qdj
theorem qk8:@Eq ((zU)->Uc (qm×Int)) P10.F qes:=by delta qes;rw [<-qk3];kernel_rfl
def q47 (x:xa):GG:=(if decide ((↑(ByteArray.size x.2):Int)<=(↑(ByteArray.size x.1):Int))=true then (ZI x.1 0 (↑(ByteArray.size x.2):Int)).bind fun a=>some (decide (a=x.2)) else some false).bind fun a=>some a
def qa9:xa->GG:=q47
theorem qe4:@Eq ((xa)->Uc Bool) P11.F qa9:=by kernel_rfl
def qev (A:zoP) (x:xa):GG:=(A x).bind fun a=>some a
def q7j:xa->GG:=qev qa9
theorem qib:@Eq ((xa)->Uc Bool) P12.F q7j:=by delta q7j;rw [<-qe4];kernel_rfl
def q7k:=wK
theorem qic:F13=q7k:=rfl
def qb0 (A:zoP) (B:wZ):zoq->Uc (Step zoq (Ua⊕Ua)):=fun a=>if decide (a.2.2 < 3)=true then (WY [a.2.1.1,a.2.1.2.1,a.2.1.2.2] a.2.2).bind fun b=>(A (a.1,b)).bind fun c=>if c=true then some (Step.done (inl b)) else some (Step.next (a.1,a.2.1,Ud (a.2.2+1))) else some (Step.done (inr a.1))
def qjg (A:zoP) (B:wZ) (x:Zv):Uc Ua:=(lpO (qb0 A B) (x,(lit [45,62],lit [60,61],lit [61,61]),0)).bind fun a=>elim (fun b=>some b) (fun b=>(Zf b 0).bind fun c=>(B (lit [123,125,40,41,91,93,44,58,59,61,43,45,38,60],c)).bind fun d=>if decide (0<=d)=true then (ZI b 0 1).bind fun e=>some e else some (lit [])) a
def qfz:ziF:=qjg q7j q7k
theorem qk9:@Eq ziF P14.F qfz:=by delta qfz;rw [<-qib,<-qic];kernel_rfl
def qdx (A:wZ) (B:zS) (C:wZ) (D:zio) (E:zS) (G:wZ) (H:zio) (I:ziF):zf7->Uc (Step zf7 zuM):=fun a=>if decide (a.2.1 < (↑(ByteArray.size a.1):Int))=true then ((Zf a.1 a.2.1).bind fun b=>(if decide (b=32)=true then some (a.1,a.2.1,0,b,true,a.2.2,qm.mk 0 (lit []) 0 0) else some (a.1,a.2.1,0,b,decide (b=10),a.2.2,qm.mk 0 (lit []) 0 0)).bind fun c=>(if c.2.2.2.2.1=true then some (inl (c.1,Ud (c.2.1+1),c.2.2.2.2.2.1)) else if decide (c.2.2.2.1=35)=true then (A (c.1,c.2.1)).bind fun d=>some (inl (c.1,d,c.2.2.2.2.2.1)) else (B c.2.2.2.1).bind fun e=>(if e=true then (C (c.1,c.2.1)).bind fun i=>(D (c.1,c.2.1,i)).bind fun j=>some (c.1,c.2.1,j.2,c.2.2.2.2.2.1,j.1) else (E c.2.2.2.1).bind fun l=>(if l=true then (G (c.1,c.2.1)).bind fun m=>(H (c.1,c.2.1,m)).bind fun n=>some (c.1,c.2.1,n.2,c.2.2.2.2.2.1,n.1) else (ZI c.1 c.2.1 (↑(ByteArray.size c.1):Int)).bind fun o=>(I o).bind fun p=>(if decide (p=lit [])=true then some (c.1,c.2.1,11,c.2.2.2.2.2.1,qm.mk 4 p 0 c.2.1) else some (c.1,c.2.1,c.2.2.1,c.2.2.2.2.2.1,qm.mk 4 p 0 c.2.1)).bind fun r=>some r).bind fun m=>some m).bind fun i=>some (inr i)).bind fun d=>elim (fun e=>some (inl e)) (fun e=>if decide (e.2.2.1≠0)=true then some (inr (e.2.1,e.2.2.1)) else (zp 40 e.2.2.2.1 [e.2.2.2.2]).bind fun i=>some (inl (e.1,Ud (e.2.1+(↑e.2.2.2.2.T_.size:Int)),i))) d).bind fun b=>elim (fun c=>some (Step.next c)) (fun c=>some (Step.done (inl c))) b else some (Step.done (inr (a.1,a.2.2)))
def qft (A:wZ) (B:zS) (C:wZ) (D:zio) (E:zS) (G:wZ) (H:zio) (I:ziF) (x:Zv):Uc zpg:=(if decide (16384 < (↑x.size:Int))=true then some (0,10,Sl.mk [] false) else (lpO (qdx A B C D E G H I) (x,0,Sl.mk [] false)).bind fun a=>elim (fun b=>some (b.1,b.2,Sl.mk [] false)) (fun b=>(zp 40 b.2 [qm.mk 0 (lit []) 0 (↑(ByteArray.size b.1):Int)]).bind fun c=>some (0,0,c)) a).bind fun a=>some a
def qbl:zis:=qft qbe qa2 qcx qcz q8d qc0 qes qfz
theorem qjz:@Eq zis P15.F qbl:=by delta qbl;rw [<-qj4,<-qgf,<-qjl,<-qjx,<-qg7,<-qji,<-qk8,<-qk9];kernel_rfl
def qe6 (x:q7):Uc (qm×q7):=(zb x.Z_ 0).bind fun a=>some (a,x)
def q10:xb:=qe6
theorem q2d:@Eq xb P16.F q10:=by kernel_rfl
def qfe (A:xb) (x:w5):Uc zI:=(A x.2).bind fun a=>(if decide (a.1.k_=2)=true then some (decide (a.1.T_=x.1),a.2) else if decide (a.1.k_=4)=true then some (decide (a.1.T_=x.1),a.2) else some (false,a.2)).bind fun b=>some b
def q23:w5->Uc zI:=qfe q10
theorem q6s:@Eq ((w5)->Uc zI) P17.F q23:=by delta q23;rw [<-q2d];kernel_rfl
def qew (A:Zu) (x:w5):Uc zI:=(A x).bind fun a=>if (!a.1)=true then some (false,a.2) else (Zg a.2.Z_ 1 a.2.Z_.len).bind fun b=>some (true,q7.mk b a.2.D_)
def qx:w5->Uc zI:=qew q23
theorem q1c:@Eq ((w5)->Uc zI) P18.F qx:=by delta qx;rw [<-q6s];kernel_rfl
def qe7 (A:xb) (x:GP):Uc zg:=(A x.2).bind fun a=>some ((a.1.a_,x.1),a.2)
def q1n:GP->Uc zg:=qe7 q10
theorem q5q:@Eq ((Int×q7)->Uc zg) P19.F q1n:=by delta q1n;rw [<-q2d];kernel_rfl
def qe8 (A:xb) (B:V2) (x:GP):Uc zf6:=(A x.2).bind fun a=>if decide (a.1.k_≠x.1)=true then (B (20,a.2)).bind fun b=>some (inl b) else (Zg a.2.Z_ 1 a.2.Z_.len).bind fun c=>some (inr (a.1,q7.mk c a.2.D_))
def q5d:GP->Uc zf6:=qe8 q10 q1n
theorem qex:@Eq ((Int×q7)->Uc zf6) P20.F q5d:=by delta q5d;rw [<-q2d,<-q5q];kernel_rfl
def qe9 (A:zuo) (x:q7):Uc Z1:=(A (1,x)).bind fun a=>elim (fun b=>some (inl b)) (fun b=>some (inr ((5,b.1.T_,0,b.1.a_),b.2))) a
def q17:X9:=qe9 q5d
theorem q2p:@Eq X9 P21.F q17:=by delta q17;rw [<-qex];kernel_rfl
def qea (A:Zu) (B:V2) (x:w5):Uc Z9:=(A x).bind fun a=>if (!a.1)=true then (B (20,a.2)).bind fun b=>some (inl b) else some (inr a.2)
def q12:w5->Uc Z9:=qea qx q1n
theorem q21:@Eq ((w5)->Uc Z9) P22.F q12:=by delta q12;rw [<-q1c,<-q5q];kernel_rfl
def qeb (A:xb) (B:Zu) (C:Xg) (D:X9) (x:q7):Uc zoZ:=(A x).bind fun a=>(A a.2).bind fun b=>(B (lit [105,110,116],b.2)).bind fun c=>if c.1=true then some (inl (q8.mk 8 a.1.T_ 0 b.1.a_ (Sl.mk [] false),c.2)) else (B (lit [111,119,110],c.2)).bind fun d=>(if d.1=true then some (inl (d.2,(0,lit [],0,0),8,a.1.T_,0,b.1.a_)) else (C (lit [38],d.2)).bind fun e=>elim (fun i=>some (inr i)) (fun i=>(B (lit [109,117,116],i)).bind fun j=>(if j.1=true then some (j.2,(0,lit [],0,0),8,lit [38,109,117,116],0,b.1.a_) else some (j.2,(0,lit [],0,0),8,a.1.T_,0,b.1.a_)).bind fun (l:XM)=>some (inl l)) e).bind fun (e:q7×(Int×Ua×Int×Int)×Int×Ua×Int×Int⊕zJ×q7)=>elim (fun i=>(D i.1).bind fun j=>elim (fun l=>some (inr l)) (fun l=>some (inl (q8.mk i.2.2.1 i.2.2.2.1 i.2.2.2.2.1 i.2.2.2.2.2 (Sl.mk [q8.mk l.1.1 l.1.2.1 l.1.2.2.1 l.1.2.2.2 (Sl.mk [] false)] true),l.2))) j) (fun i=>some (inr i)) e
def q9p:zip:=qeb q10 qx q12 q17
theorem qey:@Eq zip P23.F q9p:=by delta q9p;rw [<-q2d,<-q1c,<-q21,<-q2p];kernel_rfl
def qdm (A:X9) (B:Xg) (C:zip) (x:q7):Uc Zk:=(A x).bind fun a=>elim (fun b=>some (inl b)) (fun b=>(B (lit [58],b.2)).bind fun c=>elim (fun d=>some (inl d)) (fun d=>(C d).bind fun e=>elim (fun i=>some (inr ((7,b.1.2),i.2,Sl.mk [kg i.1] true))) (fun i=>some (inl i)) e) c) a
def q8m:ZQ:=qdm q17 q12 q9p
theorem qgy:@Eq ZQ P24.F q8m:=by delta q8m;rw [<-q2p,<-q21,<-qey];kernel_rfl
def q8f (A:ZQ) (B:Zu):yr->Uc (Step yr yQ):=fun a=>(B (lit [44],a.1)).bind fun b=>if b.1=true then (A b.2).bind fun c=>elim (fun d=>some (Step.done (inl d))) (fun d=>(zp 64 a.2 [q8.mk d.1.1 d.1.2.1 d.1.2.2.1 d.1.2.2.2 d.2.2]).bind fun e=>some (Step.next (d.2.1,e))) c else some (Step.done (inr (b.2,a.2)))
def qby (A:ZQ) (B:Zu) (x:q7):Uc yQ:=(A x).bind fun a=>elim (fun b=>some (inl b)) (fun b=>(lpO (q8f A B) (b.2.1,Sl.mk [q8.mk b.1.1 b.1.2.1 b.1.2.2.1 b.1.2.2.2 b.2.2] true)).bind fun c=>elim (fun d=>some (inl d)) (fun d=>some (inr d)) c) a
def q9j:YT:=qby q8m qx
theorem qfw:@Eq YT P25.F q9j:=by delta q9j;rw [<-qgy,<-q1c];kernel_rfl
def qdc (x:q8×Int):Uc (q8×Int):=some (q8.mk x.1.k_ x.1.T_ x.1.N_ x.2 x.1.K_,x.2)
def q7u:q8×Int->Uc (q8×Int):=qdc
theorem qgg:@Eq ((q8×Int)->Uc (q8×Int)) P26.F q7u:=by kernel_rfl
def qdn (A:Xg) (x:q8×q7):Uc ZR:=(A (lit [59],x.2)).bind fun a=>elim (fun b=>some (inl b)) (fun b=>some (inr (kg x.1,b))) a
def q6e:q8×q7->Uc ZR:=qdn q12
theorem qgz:@Eq ((q8×q7)->Uc ZR) P27.F q6e:=by delta q6e;rw [<-q21];kernel_rfl
def qdd (A:zuo) (x:GP):Uc vn:=(A (3,x.2)).bind fun a=>elim (fun b=>some (inl b)) (fun b=>some (inr (Ud (x.1 * b.1.N_),b.2))) a
def q4l:GP->Uc vn:=qdd q5d
theorem q86:@Eq ((Int×q7)->Uc vn) P28.F q4l:=by delta q4l;rw [<-qex];kernel_rfl
def qff (A:X9) (B:Xg) (C:zii) (x:GP):Uc Z1:=(A x.2).bind fun a=>elim (fun b=>some (inl b)) (fun b=>(B (lit [91],b.2)).bind fun c=>elim (fun d=>some (inl d)) (fun d=>(C (1,d)).bind fun e=>elim (fun i=>some (inl i)) (fun i=>(B (lit [93],i.2)).bind fun j=>elim (fun l=>some (inl l)) (fun l=>some (inr ((x.1,b.1.2.1,i.1,b.1.2.2.2),l))) j) e) c) a
def qal:GP->Uc Z1:=qff q17 q12 q4l
theorem qiw:@Eq ((Int×q7)->Uc Z1) P29.F qal:=by delta qal;rw [<-q2p,<-q21,<-q86];kernel_rfl
def qec (A:Zu) (B:zii) (x:q8×q7):Uc ZR:=(A (lit [43],x.2)).bind fun a=>(if a.1=true then (B (1,a.2)).bind fun b=>elim (fun c=>some (inl c)) (fun c=>some (inr (c.2,q8.mk x.1.k_ x.1.T_ c.1 x.1.a_ x.1.K_,0,lit [],0,0))) b else (A (lit [45],a.2)).bind fun c=>(if c.1=true then (B (-1,c.2)).bind fun d=>elim (fun e=>some (inl e)) (fun e=>some (inr (e.2,q8.mk x.1.k_ x.1.T_ e.1 x.1.a_ x.1.K_,0,lit [],0,0))) d else some (inr (c.2,kg x.1,0,lit [],0,0))).bind fun (d:zue)=>elim (fun e=>some (inl e)) (fun e=>some (inr (e.1,kg e.2.1,e.2.2))) d).bind fun (b:zue)=>elim (fun c=>some (inl c)) (fun c=>some (inr (kg c.2.1,c.1))) b
def q5e:q8×q7->Uc ZR:=qec qx q4l
theorem qez:@Eq ((q8×q7)->Uc ZR) P30.F q5e:=by delta q5e;rw [<-q1c,<-q86];kernel_rfl
def qed (A:xb) (B:zii) (C:Zu) (D:X9) (E:zoE) (x:q7):Uc ZR:=(A x).bind fun a=>(A a.2).bind fun b=>(if decide (b.1.k_=3)=true then (B (1,b.2)).bind fun c=>elim (fun d=>some (inl d)) (fun d=>some (inr (inl (d.2,5,lit [],d.1,a.1.a_)))) c else (C (lit [45],b.2)).bind fun d=>if d.1=true then (B (-1,d.2)).bind fun e=>elim (fun i=>some (inl i)) (fun i=>some (inr (inl (i.2,5,lit [],i.1,a.1.a_)))) e else some (inr (inr (d.2,0,lit [],0,0)))).bind fun (c:zJ×q7⊕q7×Int×Ua×Int×Int⊕q7×Int×Ua×Int×Int)=>elim (fun d=>some (inl d)) (fun d=>elim (fun e=>some (inr (q8.mk e.2.1 e.2.2.1 e.2.2.2.1 e.2.2.2.2 (Sl.mk [] false),e.1))) (fun e=>((D e.1).bind fun i=>elim (fun j=>some (inl j)) (fun j=>(E (q8.mk j.1.1 j.1.2.1 j.1.2.2.1 j.1.2.2.2 (Sl.mk [] false),j.2)).bind fun l=>elim (fun m=>some (inl m)) (fun m=>some (inr (m.2,kg m.1))) l) i).bind fun (i:ziI)=>elim (fun j=>some (inl j)) (fun j=>some (inr (kg j.2,j.1))) i) d) c
def q2b:YU:=qed q10 q4l qx q17 q5e
theorem q71:@Eq YU P31.F q2b:=by delta q2b;rw [<-q2d,<-q86,<-q1c,<-q2p,<-qez];kernel_rfl
def q6x (A:Zu) (B:V2):zoB->Uc (Step zoB (w5⊕q7)):=fun a=>if decide (a.2.1 < 3)=true then (WY [a.1.1,a.1.2.1,a.1.2.2] a.2.1).bind fun b=>(A (b,a.2.2)).bind fun c=>if c.1=true then some (Step.done (inl (b,c.2))) else some (Step.next (a.1,Ud (a.2.1+1),c.2)) else some (Step.done (inr a.2.2))
def qf0 (A:Zu) (B:V2) (x:q7):Uc zuH:=(lpO (q6x A B) ((lit [60],lit [60,61],lit [61,61]),0,x)).bind fun a=>elim (fun b=>some (inl b)) (fun b=>(B (20,b)).bind fun c=>some (inr c)) a
def qcp:zoy:=qf0 qx q1n
theorem qid:@Eq zoy P32.F qcp:=by delta qcp;rw [<-q1c,<-q5q];kernel_rfl
def qee (A:YU) (B:zoy) (x:q7):Uc Zk:=(A x).bind fun a=>elim (fun b=>some (inl b)) (fun b=>(B b.2).bind fun c=>elim (fun d=>(A d.2).bind fun e=>elim (fun i=>some (inl i)) (fun i=>some (inr ((4,d.1,0,b.1.a_),i.2,Sl.mk [kg b.1,kg i.1] true))) e) (fun d=>some (inl d)) c) a
def q4f:ZQ:=qee q2b qcp
theorem qf1:@Eq ZQ P33.F q4f:=by delta q4f;rw [<-q71,<-qid];kernel_rfl
def q9g (A:YU) (B:Zu):yr->Uc (Step yr yQ):=fun a=>(B (lit [44],a.1)).bind fun b=>if b.1=true then (A b.2).bind fun c=>elim (fun d=>some (Step.done (inl d))) (fun d=>(zp 64 a.2 [kg d.1]).bind fun e=>some (Step.next (d.2,e))) c else some (Step.done (inr (b.2,a.2)))
def qcm (A:YU) (B:Zu) (x:q7):Uc yQ:=(A x).bind fun a=>elim (fun b=>some (inl b)) (fun b=>(lpO (q9g A B) (b.2,Sl.mk [kg b.1] true)).bind fun c=>elim (fun d=>some (inl d)) (fun d=>some (inr d)) c) a
def q9n:YT:=qcm q2b qx
theorem qg0:@Eq YT P34.F q9n:=by delta q9n;rw [<-q71,<-q1c];kernel_rfl
def qef (A:Xg) (B:Zu) (C:YT) (x:q7):Uc yQ:=(A (lit [40],x)).bind fun a=>elim (fun b=>some (inl b)) (fun b=>(B (lit [41],b)).bind fun c=>if c.1=true then some (inr (c.2,Sl.mk [] false)) else (C c.2).bind fun d=>elim (fun e=>some (inl e)) (fun e=>(A (lit [41],e.1)).bind fun i=>elim (fun j=>some (inl j)) (fun j=>some (inr (j,e.2))) i) d) a
def q5f:YT:=qef q12 qx q9n
theorem qcf:@Eq YT P35.F q5f:=by delta q5f;rw [<-q21,<-q1c,<-qg0];kernel_rfl
def qeg (A:xb) (B:Zu) (C:zii) (D:X9) (E:YU) (G:Zu) (H:YT) (I:Xg) (J:zoE) (x:q7):Uc ZR:=(A x).bind fun a=>(B (lit [110,101,119],a.2)).bind fun b=>(if b.1=true then (C (1,b.2)).bind fun c=>elim (fun d=>some (inl d)) (fun d=>some (inr (inl (d.2,q8.mk 23 (lit []) d.1 a.1.a_ (Sl.mk [] false))))) c else (B (lit [97,114,114,97,121],b.2)).bind fun d=>(if d.1=true then (D d.2).bind fun e=>elim (fun i=>some (inl i)) (fun i=>some (inr (inl (i.2,q8.mk 24 i.1.2.1 0 a.1.a_ (Sl.mk [] false))))) e else (B (lit [38],d.2)).bind fun i=>(if i.1=true then (B (lit [109,117,116],i.2)).bind fun j=>(if j.1=true then some (j.2,(0,lit [],0,0),27,lit [],0,a.1.a_) else some (j.2,(0,lit [],0,0),26,lit [],0,a.1.a_)).bind fun (l:XM)=>(D l.1).bind fun m=>elim (fun n=>some (inl n)) (fun n=>some (inr (inl (n.2,q8.mk l.2.2.1 n.1.2.1 l.2.2.2.2.1 l.2.2.2.2.2 (Sl.mk [] false))))) m else (A i.2).bind fun n=>if decide (n.1.k_≠1)=true then (E n.2).bind fun o=>elim (fun p=>some (inl p)) (fun p=>some (inr (inl (p.2,kg p.1)))) o else some (inr (inr (n.2,(0,lit [],0,0),0,lit [],0,a.1.a_)))).bind fun (j:ztl)=>elim (fun l=>some (inl l)) (fun l=>elim (fun m=>some (inr (inl (m.1,kg m.2)))) (fun m=>some (inr (inr m))) l) j).bind fun (e:ztl)=>elim (fun i=>some (inl i)) (fun i=>elim (fun j=>some (inr (inl (j.1,kg j.2)))) (fun j=>some (inr (inr j))) i) e).bind fun (c:ztl)=>elim (fun d=>some (inl d)) (fun d=>elim (fun e=>some (inr (kg e.2,e.1))) (fun e=>(D e.1).bind fun i=>elim (fun j=>some (inl j)) (fun j=>(G (lit [40],j.2)).bind fun l=>(if l.1=true then (H l.2).bind fun m=>elim (fun n=>some (inl n)) (fun n=>some (inr (inl (n.1,(28,j.1.2),n.2)))) m else (B (lit [91],l.2)).bind fun n=>(if n.1=true then (E n.2).bind fun o=>elim (fun p=>some (inl p)) (fun p=>(I (lit [93],p.2)).bind fun r=>elim (fun s=>some (inl s)) (fun s=>some (inr (inl (s,(25,j.1.2),Sl.mk [kg p.1] true)))) r) o else some (inr (inr (n.2,e.2.1,j.1)))).bind fun (o:zs8)=>elim (fun p=>some (inl p)) (fun p=>elim (fun r=>some (inr (inl r))) (fun r=>some (inr (inr r))) p) o).bind fun (m:zs8)=>elim (fun n=>some (inl n)) (fun n=>elim (fun o=>some (inr (q8.mk o.2.1.1 o.2.1.2.1 o.2.1.2.2.1 o.2.1.2.2.2 o.2.2,o.1))) (fun o=>(yV (((G (lit [43],o.1)).bind fun p=>if p.1=true then (zb p.2.Z_ 1).bind fun r=>some (lit [43],21,decide (r.k_=1),p.2,o.2) else some (lit [43],21,false,p.2,o.2)).bind fun (p:zod)=>(if p.2.2.1=true then (I (p.1,p.2.2.2.1)).bind fun r=>elim (fun s=>some (inl (s.1,s.2,p.2.2.2.2))) (fun s=>(D s).bind fun t=>elim (fun u=>some (inl (u.1,u.2,p.2.2.2.2))) (fun u=>some (inr (inl (u.2,(p.2.1,lit [],0,p.2.2.2.2.2.2.2.2),p.2.2.2.2.2,Sl.mk [q8.mk p.2.2.2.2.2.1 p.2.2.2.2.2.2.1 p.2.2.2.2.2.2.2.1 p.2.2.2.2.2.2.2.2 (Sl.mk [] false),q8.mk u.1.1 u.1.2.1 u.1.2.2.1 u.1.2.2.2 (Sl.mk [] false)] true)))) t) r else some (inr (inr p.2.2.2))).bind fun (r:tA0)=>elim (fun s=>some (inl (s.1,s.2.1))) (fun s=>elim (fun t=>some (inr (inl (t.1,t.2.1,t.2.2.2)))) (fun t=>((G (lit [45],t.1)).bind fun u=>if u.1=true then (zb u.2.Z_ 1).bind fun v=>some (lit [45],22,decide (v.k_=1),u.2,t.2) else some (lit [45],22,false,u.2,t.2)).bind fun (u:zod)=>(if u.2.2.1=true then (I (u.1,u.2.2.2.1)).bind fun v=>elim (fun w=>some (inl (w.1,w.2,u.2.2.2.2))) (fun w=>(D w).bind fun z=>elim (fun K=>some (inl (K.1,K.2,u.2.2.2.2))) (fun K=>some (inr (inl (K.2,(u.2.1,lit [],0,u.2.2.2.2.2.2.2.2),u.2.2.2.2.2,Sl.mk [q8.mk u.2.2.2.2.2.1 u.2.2.2.2.2.2.1 u.2.2.2.2.2.2.2.1 u.2.2.2.2.2.2.2.2 (Sl.mk [] false),q8.mk K.1.1 K.1.2.1 K.1.2.2.1 K.1.2.2.2 (Sl.mk [] false)] true)))) z) v else some (inr (inr u.2.2.2))).bind fun (v:tA0)=>elim (fun w=>some (inl (w.1,w.2.1))) (fun w=>elim (fun z=>some (inr (inl (z.1,z.2.1,z.2.2.2)))) (fun z=>some (inr (inr z))) w) v) s) r) (((G (lit [45],o.1)).bind fun p=>if p.1=true then (zb p.2.Z_ 1).bind fun r=>some (lit [45],22,decide (r.k_=1),p.2,o.2) else some (lit [45],22,false,p.2,o.2)).bind fun (p:zod)=>(if p.2.2.1=true then (I (p.1,p.2.2.2.1)).bind fun r=>elim (fun s=>some (inl (s.1,s.2,p.2.2.2.2))) (fun s=>(D s).bind fun t=>elim (fun u=>some (inl (u.1,u.2,p.2.2.2.2))) (fun u=>some (inr (inl (u.2,(p.2.1,lit [],0,p.2.2.2.2.2.2.2.2),p.2.2.2.2.2,Sl.mk [q8.mk p.2.2.2.2.2.1 p.2.2.2.2.2.2.1 p.2.2.2.2.2.2.2.1 p.2.2.2.2.2.2.2.2 (Sl.mk [] false),q8.mk u.1.1 u.1.2.1 u.1.2.2.1 u.1.2.2.2 (Sl.mk [] false)] true)))) t) r else some (inr (inr p.2.2.2))).bind fun (r:tA0)=>elim (fun s=>some (inl (s.1,s.2.1))) (fun s=>elim (fun t=>some (inr (inl (t.1,t.2.1,t.2.2.2)))) (fun t=>((G (lit [43],t.1)).bind fun u=>if u.1=true then (zb u.2.Z_ 1).bind fun v=>some (lit [43],21,decide (v.k_=1),u.2,t.2) else some (lit [43],21,false,u.2,t.2)).bind fun (u:zod)=>(if u.2.2.1=true then (I (u.1,u.2.2.2.1)).bind fun v=>elim (fun w=>some (inl (w.1,w.2,u.2.2.2.2))) (fun w=>(D w).bind fun z=>elim (fun K=>some (inl (K.1,K.2,u.2.2.2.2))) (fun K=>some (inr (inl (K.2,(u.2.1,lit [],0,u.2.2.2.2.2.2.2.2),u.2.2.2.2.2,Sl.mk [q8.mk u.2.2.2.2.2.1 u.2.2.2.2.2.2.1 u.2.2.2.2.2.2.2.1 u.2.2.2.2.2.2.2.2 (Sl.mk [] false),q8.mk K.1.1 K.1.2.1 K.1.2.2.1 K.1.2.2.2 (Sl.mk [] false)] true)))) z) v else some (inr (inr u.2.2.2))).bind fun (v:tA0)=>elim (fun w=>some (inl (w.1,w.2.1))) (fun w=>elim (fun z=>some (inr (inl (z.1,z.2.1,z.2.2.2)))) (fun z=>some (inr (inr z))) w) v) s) r)).bind fun p=>elim (fun r=>some (inl r)) (fun r=>elim (fun s=>some (inr (q8.mk s.2.1.1 s.2.1.2.1 s.2.1.2.2.1 s.2.1.2.2.2 s.2.2,s.1))) (fun s=>(J (q8.mk s.2.2.1 s.2.2.2.1 s.2.2.2.2.1 s.2.2.2.2.2 (Sl.mk [] false),s.1)).bind fun t=>elim (fun u=>some (inl u)) (fun u=>some (inr (kg u.1,u.2))) t) r) p) n) m) i) d) c
def qc3:YU:=qeg q10 qx q4l q17 q2b q23 q5f q12 q5e
theorem qho:@Eq YU F36 qc3:=by delta qc3;rw [<-q2d,<-q1c,<-q86,<-q2p,<-q71,<-q6s,<-qcf,<-q21,<-qez];kernel_rfl
def qdo (A:Zu) (B:YT) (C:Zu) (D:YU) (E:Xg) (G:YU) (x:q8×q7):Uc Zk:=(A (lit [40],x.2)).bind fun a=>(if a.1=true then (B a.2).bind fun b=>elim (fun c=>some (inl c)) (fun c=>some (inr (inl (c.1,(20,lit [],0,x.1.a_),Sl.mk [q8.mk 28 x.1.T_ x.1.N_ x.1.a_ c.2] true)))) b else (C (lit [91],a.2)).bind fun c=>(if c.1=true then (D c.2).bind fun d=>elim (fun e=>some (inl e)) (fun e=>(E (lit [93],e.2)).bind fun i=>elim (fun j=>some (inl j)) (fun j=>(E (lit [61],j)).bind fun l=>elim (fun m=>some (inl m)) (fun m=>(D m).bind fun n=>elim (fun o=>some (inl o)) (fun o=>some (inr (inl (o.2,(11,x.1.T_,x.1.N_,x.1.a_),Sl.mk ([kg e.1]++[kg o.1]) (true || ![kg o.1].isEmpty))))) n) l) i) d else some (inr (inr (c.2,kg x.1,0,lit [],0,0)))).bind fun (d:zyo)=>elim (fun e=>some (inl e)) (fun e=>elim (fun i=>some (inr (inl i))) (fun i=>some (inr (inr (i.1,kg i.2.1,i.2.2)))) e) d).bind fun (b:zyo)=>elim (fun c=>some (inl c)) (fun c=>elim (fun d=>some (inr (d.2.1,d.1,d.2.2))) (fun d=>(E (lit [61],d.1)).bind fun e=>elim (fun i=>some (inl i)) (fun i=>(G i).bind fun j=>elim (fun l=>some (inl l)) (fun l=>some (inr ((10,d.2.1.T_,d.2.1.N_,d.2.1.a_),l.2,Sl.mk [kg l.1] true))) j) e) c) b
def q8n:q8×q7->Uc Zk:=qdo q23 q5f qx q2b q12 qc3
theorem qh0:@Eq ((q8×q7)->Uc Zk) P37.F q8n:=by delta q8n;rw [<-q6s,<-qcf,<-q1c,<-q71,<-q21,<-qho];kernel_rfl
def q7i (A:ZQ) (B:ZQ) (x:zdV):Uc Zk:=(A x.2.2).bind fun a=>elim (fun b=>some (inl b)) (fun b=>(B b.2.1).bind fun c=>elim (fun d=>some (inl d)) (fun d=>(zp 64 b.2.2 [q8.mk d.1.1 d.1.2.1 d.1.2.2.1 d.1.2.2.2 d.2.2]).bind fun e=>some (inr ((x.1,b.1.2.1,b.1.2.2.1,x.2.1),d.2.1,e))) c) a
def q3l (h:ZQ):zdV->Uc Zk:=q7i q4f h
theorem qde (h:ZQ):@Eq ((zdV)->Uc Zk) (zm6 h) (q3l h):=by delta q3l;rw [<-qf1];kernel_rfl
def q9d (A:xb) (B:Zu) (C:X9) (D:q8×Int->Uc (q8×Int)) (E:zoE) (G:GP->Uc Z1) (H:zdV->Uc Zk) (I:ZQ) (J:Zu) (K:YU) (L:YT) (P:q8×q7->Uc Zk) (x:q7):Uc ZR:=(A x).bind fun a=>(B (lit [102,114,101,101],a.2)).bind fun b=>(if b.1=true then (C b.2).bind fun c=>elim (fun d=>some (inl d)) (fun d=>(D (q8.mk 12 d.1.2.1 d.1.2.2.1 d.1.2.2.2 (Sl.mk [] false),a.1.a_)).bind fun e=>(E (kg e.1,d.2)).bind fun i=>elim (fun j=>some (inl j)) (fun j=>some (inr (inl (j.2,kg j.1)))) i) c else (B (lit [108,111,99,107],b.2)).bind fun d=>(if d.1=true then ((G (13,d.2)).bind fun e=>elim (fun i=>some (inl i)) (fun i=>(D (q8.mk i.1.1 i.1.2.1 i.1.2.2.1 i.1.2.2.2 (Sl.mk [] false),a.1.a_)).bind fun j=>(E (kg j.1,i.2)).bind fun l=>elim (fun m=>some (inl m)) (fun m=>some (inr (m.2,kg m.1))) l) e).bind fun (e:ziI)=>elim (fun i=>some (inl i)) (fun i=>some (inr (inl (i.1,kg i.2)))) e else (B (lit [117,110,108,111,99,107],d.2)).bind fun i=>(if i.1=true then ((G (14,i.2)).bind fun j=>elim (fun l=>some (inl l)) (fun l=>(D (q8.mk l.1.1 l.1.2.1 l.1.2.2.1 l.1.2.2.2 (Sl.mk [] false),a.1.a_)).bind fun m=>(E (kg m.1,l.2)).bind fun n=>elim (fun o=>some (inl o)) (fun o=>some (inr (o.2,kg o.1))) n) j).bind fun (j:ziI)=>elim (fun l=>some (inl l)) (fun l=>some (inr (inl (l.1,kg l.2)))) j else (B (lit [105,102],i.2)).bind fun l=>(if l.1=true then (H (15,a.1.a_,l.2)).bind fun m=>elim (fun n=>some (inl n)) (fun n=>(B (lit [101,108,115,101],n.2.1)).bind fun o=>(if o.1=true then (I o.2).bind fun p=>elim (fun r=>some (inl r)) (fun r=>(zp 64 n.2.2 [q8.mk r.1.1 r.1.2.1 r.1.2.2.1 r.1.2.2.2 r.2.2]).bind fun s=>some (inr (r.2.1,(0,lit [],0,0),n.1,s))) p else (zp 64 n.2.2 [q8.mk 9 (lit []) 0 a.1.a_ (Sl.mk [] false)]).bind fun r=>some (inr (o.2,(0,lit [],0,0),n.1,r))).bind fun (p:zbT)=>elim (fun r=>some (inl r)) (fun r=>some (inr (inl (r.1,q8.mk r.2.2.1.1 r.2.2.1.2.1 r.2.2.1.2.2.1 r.2.2.1.2.2.2 r.2.2.2)))) p) m else (B (lit [119,104,105,108,101],l.2)).bind fun n=>(if n.1=true then (H (16,a.1.a_,n.2)).bind fun o=>elim (fun p=>some (inl p)) (fun p=>some (inr (inl (p.2.1,q8.mk p.1.1 p.1.2.1 p.1.2.2.1 p.1.2.2.2 p.2.2)))) o else (B (lit [114,101,116,117,114,110],n.2)).bind fun p=>(if p.1=true then (J (lit [59],p.2)).bind fun r=>(if (!r.1)=true then (K r.2).bind fun s=>elim (fun t=>some (inl t)) (fun t=>some (inr (t.2,(0,lit [],0,0),(17,lit [],0,a.1.a_),Sl.mk [kg t.1] true))) s else some (inr (r.2,(0,lit [],0,0),(17,lit [],0,a.1.a_),Sl.mk [] false))).bind fun (s:zbT)=>elim (fun t=>some (inl t)) (fun t=>(E (q8.mk t.2.2.1.1 t.2.2.1.2.1 t.2.2.1.2.2.1 t.2.2.1.2.2.2 t.2.2.2,t.1)).bind fun u=>elim (fun v=>some (inl v)) (fun v=>some (inr (inl (v.2,kg v.1)))) u) s else (B (lit [97,98,111,114,116],p.2)).bind fun t=>(if t.1=true then (E (q8.mk 18 (lit []) 0 a.1.a_ (Sl.mk [] false),t.2)).bind fun u=>elim (fun v=>some (inl v)) (fun v=>some (inr (inl (v.2,kg v.1)))) u else (B (lit [102,111,114,107],t.2)).bind fun v=>(if v.1=true then (C v.2).bind fun w=>elim (fun z=>some (inl z)) (fun z=>(L z.2).bind fun Q=>elim (fun R=>some (inl R)) (fun R=>(D (q8.mk 19 z.1.2.1 z.1.2.2.1 z.1.2.2.2 R.2,a.1.a_)).bind fun S=>(E (kg S.1,R.1)).bind fun T=>elim (fun U=>some (inl U)) (fun U=>some (inr (inl (U.2,kg U.1)))) T) Q) w else some (inr (inr (v.2,0,lit [],0,0)))).bind fun (w:VW)=>elim (fun z=>some (inl z)) (fun z=>elim (fun Q=>some (inr (inl (Q.1,kg Q.2)))) (fun Q=>some (inr (inr Q))) z) w).bind fun (u:VW)=>elim (fun v=>some (inl v)) (fun v=>elim (fun w=>some (inr (inl (w.1,kg w.2)))) (fun w=>some (inr (inr w))) v) u).bind fun (r:VW)=>elim (fun s=>some (inl s)) (fun s=>elim (fun t=>some (inr (inl (t.1,kg t.2)))) (fun t=>some (inr (inr t))) s) r).bind fun (o:VW)=>elim (fun p=>some (inl p)) (fun p=>elim (fun r=>some (inr (inl (r.1,kg r.2)))) (fun r=>some (inr (inr r))) p) o).bind fun (m:VW)=>elim (fun n=>some (inl n)) (fun n=>elim (fun o=>some (inr (inl (o.1,kg o.2)))) (fun o=>some (inr (inr o))) n) m).bind fun (j:VW)=>elim (fun l=>some (inl l)) (fun l=>elim (fun m=>some (inr (inl (m.1,kg m.2)))) (fun m=>some (inr (inr m))) l) j).bind fun (e:VW)=>elim (fun i=>some (inl i)) (fun i=>elim (fun j=>some (inr (inl (j.1,kg j.2)))) (fun j=>some (inr (inr j))) i) e).bind fun (c:VW)=>elim (fun d=>some (inl d)) (fun d=>elim (fun e=>some (inr (kg e.2,e.1))) (fun e=>((C e.1).bind fun i=>elim (fun j=>some (inl j)) (fun j=>(P (q8.mk j.1.1 j.1.2.1 j.1.2.2.1 j.1.2.2.2 (Sl.mk [] false),j.2)).bind fun l=>elim (fun m=>some (inl m)) (fun m=>(E (q8.mk m.1.1 m.1.2.1 m.1.2.2.1 m.1.2.2.2 m.2.2,m.2.1)).bind fun n=>elim (fun o=>some (inl o)) (fun o=>some (inr (o.2,kg o.1))) n) l) i).bind fun (i:ziI)=>elim (fun j=>some (inl j)) (fun j=>some (inr (kg j.2,j.1))) i) d) c
def q3e (h:ZQ):YU:=q9d q10 qx q17 q7u q6e qal (q3l h) h q23 q2b q5f q8n
theorem qeh (h:ZQ):@Eq YU (zm7 h) (q3e h):=by delta q3e;rw [<-q2d,<-q1c,<-q2p,<-qgg,<-qgz,<-qiw,<-qde h,<-q6s,<-q71,<-qcf,<-qh0];kernel_rfl
def qdk (A:xb) (B:Zu) (C:V2) (D:Xg) (E:Zu) (G:YU):Y5->Uc (Step Y5 zbT):=fun a=>(E (lit [125],a.1)).bind fun b=>if (!b.1)=true then (G b.2).bind fun c=>elim (fun d=>some (Step.done (inl d))) (fun d=>(zp 64 a.2.2.2 [kg d.1]).bind fun e=>some (Step.next (d.2,a.2.1,a.2.2.1,e))) c else some (Step.done (inr (b.2,a.2)))
def q87 (A:xb) (B:Zu) (C:V2) (D:Xg) (E:Zu) (G:YU) (x:q7):Uc Zk:=(A x).bind fun a=>((B (lit [123],a.2)).bind fun b=>if b.1=true then some (decide (8<=b.2.D_),b.2,(0,lit [],0,0),9,lit [],0,a.1.a_) else some (false,b.2,(0,lit [],0,0),9,lit [],0,a.1.a_)).bind fun b=>if b.1=true then (C (21,b.2.1)).bind fun c=>some (inl c) else (D (lit [123],b.2.1)).bind fun d=>elim (fun e=>some (inl e)) (fun e=>(lpO (qdk A B C D E G) (q7.mk e.Z_ (Ud (e.D_+1)),b.2.2.1,b.2.2.2,Sl.mk [] false)).bind fun i=>elim (fun j=>some (inl j)) (fun j=>some (inr (j.2.2.1,q7.mk j.1.Z_ (Ud (j.1.D_ - 1)),j.2.2.2))) i) d
def q88 (h:ZQ):ZQ:=q87 q10 q23 q1n q12 qx (q3e h)
theorem qgh (h:ZQ):@Eq ZQ (zm8 h) (q88 h):=by delta q88;rw [<-q2d,<-q6s,<-q5q,<-q21,<-q1c,<-qeh h];kernel_rfl
def q35:Nat->q7->Uc Zk
  |0=>fun _=>none
  |k+1=>q88 (q35 k)
theorem q89:∀ k,@Eq ZQ (zj0 k) (q35 k)
  |0=>rfl
  |k+1=>(qgh (zj0 k)).trans (congrArg q88 (q89 k))
def qbn:ZQ:=q35 100000
theorem qh1:@Eq ZQ F40 qbn:=q89 100000
def qfg (A:X9) (B:Xg) (C:Zu) (D:YT) (E:Zu) (G:V2) (H:zip) (I:xb) (J:ZQ) (x:GP):Uc Zk:=(A x.2).bind fun a=>elim (fun b=>some (inl b)) (fun b=>(B (lit [40],b.2)).bind fun c=>elim (fun d=>some (inl d)) (fun d=>(C (lit [41],d)).bind fun e=>(if (!e.1)=true then (D e.2).bind fun i=>elim (fun j=>some (inl j)) (fun j=>some (inr (j.1,(0,lit [],0,0),(6,b.1.2.1,b.1.2.2.1,x.1),j.2))) i else some (inr (e.2,(0,lit [],0,0),(6,b.1.2.1,b.1.2.2.1,x.1),Sl.mk [] false))).bind fun (i:zbT)=>elim (fun j=>some (inl j)) (fun j=>(B (lit [41],j.1)).bind fun l=>elim (fun m=>some (inl m)) (fun m=>(E (lit [45,62],m)).bind fun n=>(if n.1=true then (C (lit [38],n.2)).bind fun o=>if o.1=true then (G (20,o.2)).bind fun p=>some (inl p) else (H o.2).bind fun r=>elim (fun s=>some (inr (s.2,j.2.1,j.2.2.1,kg s.1,j.2.2.2))) (fun s=>some (inl s)) r else (I n.2).bind fun s=>some (inr (s.2,j.2.1,j.2.2.1,q8.mk 8 (lit []) 0 s.1.a_ (Sl.mk [] false),j.2.2.2))).bind fun (o:zJ×q7⊕q7×(Int×Ua×Int×Int)×(Int×Ua×Int×Int)×q8×Sl q8)=>elim (fun p=>some (inl p)) (fun p=>(J p.1).bind fun r=>elim (fun s=>some (inl s)) (fun s=>(zp 64 p.2.2.2.2 [kg p.2.2.2.1,q8.mk s.1.1 s.1.2.1 s.1.2.2.1 s.1.2.2.2 s.2.2]).bind fun t=>some (inr (p.2.2.1,s.2.1,t))) r) o) l) i) c) a
def qam:GP->Uc Zk:=qfg q17 q12 q23 q9j qx q1n q9p q10 qbn
theorem qix:@Eq ((Int×q7)->Uc Zk) P41.F qam:=by delta qam;rw [<-q2p,<-q21,<-q6s,<-qfw,<-q1c,<-q5q,<-qey,<-q2d,<-qh1];kernel_rfl
def qei (A:xb) (B:Zu) (C:X9) (D:V2) (x:q7):Uc zt7:=(A x).bind fun a=>(A a.2).bind fun b=>(B (lit [111,119,110],b.2)).bind fun c=>(if c.1=true then some (c.1,c.2,(0,lit [],0,0),2,a.1.T_,0,b.1.a_) else (B (lit [99,101,108,108],c.2)).bind fun d=>some (d.1,d.2,(0,lit [],0,0),2,a.1.T_,0,b.1.a_)).bind fun (d:zid)=>(if d.1=true then some (inl (d.2.1,d.2.2.1,d.2.2.2,Sl.mk [] false)) else (B (lit [99,111,117,110,116,101,100],d.2.1)).bind fun e=>(if e.1=true then some (e.1,e.2,d.2.2) else (B (lit [108,111,99,107],e.2)).bind fun i=>(if i.1=true then some (i.1,i.2,d.2.2) else (B (lit [103,117,97,114,100],i.2)).bind fun j=>some (j.1,j.2,d.2.2)).bind fun (j:zid)=>some j).bind fun (i:zid)=>(if i.1=true then (C i.2.1).bind fun j=>elim (fun l=>some (inl l)) (fun l=>some (inr (l.2,i.2.2.1,i.2.2.2,Sl.mk [q8.mk l.1.1 l.1.2.1 l.1.2.2.1 l.1.2.2.2 (Sl.mk [] false)] true))) j else (D (20,i.2.1)).bind fun l=>some (inl l)).bind fun (j:zbT)=>elim (fun l=>some (inr l)) (fun l=>some (inl l)) j).bind fun (e:q7×(Int×Ua×Int×Int)×(Int×Ua×Int×Int)×Sl q8⊕zJ×q7)=>elim (fun i=>some (inl (i.2.2.1,i.1,i.2.2.2))) (fun i=>some (inr i)) e
def qc2:zog:=qei q10 qx q17 q1n
theorem qhq:@Eq zog P42.F qc2:=by delta qc2;rw [<-q2d,<-q1c,<-q2p,<-q5q];kernel_rfl
def qdp (A:X9) (B:Zu) (C:Xg) (x:q7):Uc Zk:=(A x).bind fun a=>elim (fun b=>some (inl b)) (fun b=>(B (lit [91],b.2)).bind fun c=>(if c.1=true then (A c.2).bind fun d=>elim (fun e=>some (inl e)) (fun e=>(C (lit [93],e.2)).bind fun i=>elim (fun j=>some (inl j)) (fun j=>some (inr (j,(0,lit [],0,0),(3,b.1.2),Sl.mk [q8.mk e.1.1 e.1.2.1 e.1.2.2.1 e.1.2.2.2 (Sl.mk [] false)] true))) i) d else some (inr (c.2,(0,lit [],0,0),(3,b.1.2),Sl.mk [] false))).bind fun (d:zbT)=>elim (fun e=>some (inl e)) (fun e=>some (inr (e.2.2.1,e.1,e.2.2.2))) d) a
def q8l:ZQ:=qdp q17 qx q12
theorem qh2:@Eq ZQ P43.F q8l:=by delta q8l;rw [<-q2p,<-q1c,<-q21];kernel_rfl
def q8e (A:ZQ) (B:Zu):yr->Uc (Step yr yQ):=fun a=>(B (lit [44],a.1)).bind fun b=>if b.1=true then (A b.2).bind fun c=>elim (fun d=>some (Step.done (inl d))) (fun d=>(zp 64 a.2 [q8.mk d.1.1 d.1.2.1 d.1.2.2.1 d.1.2.2.2 d.2.2]).bind fun e=>some (Step.next (d.2.1,e))) c else some (Step.done (inr (b.2,a.2)))
def qbz (A:ZQ) (B:Zu) (x:q7):Uc yQ:=(A x).bind fun a=>elim (fun b=>some (inl b)) (fun b=>(lpO (q8e A B) (b.2.1,Sl.mk [q8.mk b.1.1 b.1.2.1 b.1.2.2.1 b.1.2.2.2 b.2.2] true)).bind fun c=>elim (fun d=>some (inl d)) (fun d=>some (inr d)) c) a
def q9i:YT:=qbz q8l qx
theorem qfx:@Eq YT P44.F q9i:=by delta q9i;rw [<-qh2,<-q1c];kernel_rfl
def q9h (A:ZQ) (B:Zu):yr->Uc (Step yr yQ):=fun a=>(B (lit [44],a.1)).bind fun b=>if b.1=true then (A b.2).bind fun c=>elim (fun d=>some (Step.done (inl d))) (fun d=>(zp 64 a.2 [q8.mk d.1.1 d.1.2.1 d.1.2.2.1 d.1.2.2.2 d.2.2]).bind fun e=>some (Step.next (d.2.1,e))) c else some (Step.done (inr (b.2,a.2)))
def qcn (A:ZQ) (B:Zu) (x:q7):Uc yQ:=(A x).bind fun a=>elim (fun b=>some (inl b)) (fun b=>(lpO (q9h A B) (b.2.1,Sl.mk [q8.mk b.1.1 b.1.2.1 b.1.2.2.1 b.1.2.2.2 b.2.2] true)).bind fun c=>elim (fun d=>some (inl d)) (fun d=>some (inr d)) c) a
def q9o:YT:=qcn q4f qx
theorem qg1:@Eq YT P45.F q9o:=by delta q9o;rw [<-qf1,<-q1c];kernel_rfl
def qf2 (A:X9) (B:zog) (C:Zu) (D:YT) (E:Xg) (G:YT) (x:GP):Uc Zk:=(A x.2).bind fun a=>elim (fun b=>some (inl b)) (fun b=>(B b.2).bind fun c=>elim (fun d=>(C (lit [123],d.2.1)).bind fun e=>(if e.1=true then (D e.2).bind fun i=>elim (fun j=>some (inl j)) (fun j=>(zp 64 (Sl.mk [q8.mk d.1.1 d.1.2.1 d.1.2.2.1 d.1.2.2.2 d.2.2] true) j.2.xs).bind fun l=>(E (lit [125],j.1)).bind fun m=>elim (fun n=>some (inl n)) (fun n=>some (inr (n,(0,lit [],0,0),(1,b.1.2.1,b.1.2.2.1,x.1),l))) m) i else some (inr (e.2,(0,lit [],0,0),(1,b.1.2.1,b.1.2.2.1,x.1),Sl.mk [q8.mk d.1.1 d.1.2.1 d.1.2.2.1 d.1.2.2.2 d.2.2] true))).bind fun (i:zbT)=>elim (fun j=>some (inl j)) (fun j=>(C (lit [119,104,101,114,101],j.1)).bind fun l=>(if l.1=true then (G l.2).bind fun m=>elim (fun n=>some (inl n)) (fun n=>(zp 64 j.2.2.2 n.2.xs).bind fun o=>some (inr (n.1,j.2.1,j.2.2.1,o))) m else some (inr (l.2,j.2))).bind fun (m:zbT)=>elim (fun n=>some (inl n)) (fun n=>(E (lit [59],n.1)).bind fun o=>elim (fun p=>some (inl p)) (fun p=>some (inr (n.2.2.1,p,n.2.2.2))) o) m) i) (fun d=>some (inl d)) c) a
def qaa:GP->Uc Zk:=qf2 q17 qc2 qx q9i q12 q9o
theorem qie:@Eq ((Int×q7)->Uc Zk) P46.F qaa:=by delta qaa;rw [<-q2p,<-qhq,<-q1c,<-qfx,<-q21,<-qg1];kernel_rfl
def qbo (A:XO):zo2->Uc (Step zo2 Int):=fun a=>if decide (a.2.2.2 < a.2.2.1)=true then (zb a.2.1 a.2.2.2).bind fun b=>(A (kg b)).bind fun c=>some (Step.next (Ud (a.1+c),a.2.1,a.2.2.1,Ud (a.2.2.2+1))) else some (Step.done a.1)
def qda (A:XO) (x:q8):G9:=(lpO (qbo A) (1,x.K_,x.K_.len,0)).bind fun a=>some a
def qdb (h:XO):XO:=qda h
theorem qjo (h:XO):@Eq XO (zm9 h) (qdb h):=by kernel_rfl
def q5g:Nat->q8->Uc Int
  |0=>fun _=>none
  |k+1=>qdb (q5g k)
theorem qh3:∀ k,@Eq XO (zj1 k) (q5g k)
  |0=>rfl
  |k+1=>(qjo (zj1 k)).trans (congrArg qdb (qh3 k))
def qdy:XO:=q5g 100000
theorem qjq:@Eq XO F47 qdy:=qh3 100000
def qej (x:VV):Uc Y6:=some ((0,lit [],0,0),x.1.1,x.1.2,x.2.2.2.2)
def qc4:VV->Uc Y6:=qej
theorem qhr:@Eq ((VV)->Uc Y6) F48 qc4:=by kernel_rfl
def qdf (x:Y6):Uc Y6:=some x
def qb1:Y6->Uc Y6:=qdf
theorem qgj:@Eq ((Y6)->Uc Y6) F49 qb1:=by kernel_rfl
def q5t (A:zis) (B:xb) (C:Zu) (D:zh9) (E:Xg) (G:zh9) (H:zyf) (I:XO) (J:zyk):zdz->Uc (Step zdz zyi):=fun a=>(B a.2.2.2.1).bind fun b=>if decide (b.1.k_≠0)=true then ((B b.2).bind fun c=>(C (lit [102,110],c.2)).bind fun d=>if d.1=true then ((D (c.1.a_,d.2)).bind fun e=>elim (fun i=>some (inl (i.1,a.1,a.2.1,a.2.2.1,a.2.2.2.2))) (fun i=>(zp 64 a.2.2.2.2 [q8.mk 0 (lit []) 0 0 (Sl.mk [] false)]).bind fun j=>(zb j (Sl.len a.2.2.2.2)).bind fun l=>yV ((zb j (Sl.len a.2.2.2.2)).bind fun m=>some (inr (a.1,a.2.1,a.2.2.1,i.2.1,j.set (Sl.len a.2.2.2.2) (q8.mk i.1.1 i.1.2.1 i.1.2.2.1 i.1.2.2.2 i.2.2)))) ((zb j (Sl.len a.2.2.2.2)).bind fun m=>some (inr (a.1,a.2.1,a.2.2.1,i.2.1,j.set (Sl.len a.2.2.2.2) (q8.mk i.1.1 i.1.2.1 i.1.2.2.1 i.1.2.2.2 i.2.2))))) e).bind fun e=>elim (fun i=>some (inl i)) (fun i=>some (inr i)) e else (E (lit [116,121,112,101],d.2)).bind fun i=>elim (fun j=>some (inl (j.1,a.1,a.2.1,a.2.2.1,a.2.2.2.2))) (fun j=>((G (c.1.a_,j)).bind fun l=>elim (fun m=>some (inl (m.1,a.1,a.2.1,a.2.2.1,a.2.2.2.2))) (fun m=>(zp 64 a.2.2.2.2 [q8.mk 0 (lit []) 0 0 (Sl.mk [] false)]).bind fun n=>(zb n (Sl.len a.2.2.2.2)).bind fun o=>yV ((zb n (Sl.len a.2.2.2.2)).bind fun p=>some (inr (a.1,a.2.1,a.2.2.1,m.2.1,n.set (Sl.len a.2.2.2.2) (q8.mk m.1.1 m.1.2.1 m.1.2.2.1 m.1.2.2.2 m.2.2)))) ((zb n (Sl.len a.2.2.2.2)).bind fun p=>some (inr (a.1,a.2.1,a.2.2.1,m.2.1,n.set (Sl.len a.2.2.2.2) (q8.mk m.1.1 m.1.2.1 m.1.2.2.1 m.1.2.2.2 m.2.2))))) l).bind fun l=>elim (fun m=>some (inl m)) (fun m=>some (inr m)) l) i).bind fun c=>elim (fun d=>some (Step.done (inl d))) (fun d=>some (Step.next d)) c else some (Step.done (inr (a.1,a.2.1,a.2.2.1,a.2.2.2.2)))
def qgd (A:zis) (B:xb) (C:Zu) (D:zh9) (E:Xg) (G:zh9) (H:zyf) (I:XO) (J:zyk) (x:Zv):Uc (q8×zJ):=(A x).bind fun a=>if decide (a.2.1≠0)=true then some (q8.mk 0 (lit []) 0 0 (Sl.mk [] false),a.1,a.2.1) else (lpO (q5t A B C D E G H I J) ((0,lit [],0,0),a.1,a.2.1,q7.mk a.2.2 0,Sl.mk [] false)).bind fun b=>elim (fun c=>(H c).bind fun d=>some (q8.mk d.1.1 d.1.2.1 d.1.2.2.1 d.1.2.2.2 (Sl.mk [] false),d.2.1,d.2.2.1)) (fun c=>(I (q8.mk c.1.1 c.1.2.1 c.1.2.2.1 c.1.2.2.2 c.2.2.2)).bind fun d=>if decide (4096 < d)=true then (J ((0,lit [],0,0),0,22,Sl.mk [] false)).bind fun e=>some (q8.mk e.1.1 e.1.2.1 e.1.2.2.1 e.1.2.2.2 e.2.2.2,e.2.1,e.2.2.1) else (J (c.1,0,0,c.2.2.2)).bind fun i=>some (q8.mk i.1.1 i.1.2.1 i.1.2.2.1 i.1.2.2.2 i.2.2.2,i.2.1,i.2.2.1)) b
def q5h:zdH:=qgd qbl q10 qx qam q12 qaa qc4 qdy qb1
theorem qh4:@Eq zdH F50 q5h:=by delta q5h;rw [<-qjz,<-q2d,<-q1c,<-qix,<-q21,<-qie,<-qhr,<-qjq,<-qgj];kernel_rfl
def q7p:zf3->Uc (Step zf3 zi7):=fun a=>if decide (a.2.2.1 < a.2.1)=true then (zb a.1 a.2.2.1).bind fun b=>(if decide (b.k_=3)=true then (zp 64 a.2.2.2.1 [kg b]).bind fun c=>some (a.1,a.2.1,a.2.2.1,c,a.2.2.2.2) else (if decide (b.k_=4)=true then (zp 64 a.2.2.2.2 [kg b]).bind fun d=>some (a.1,a.2.1,a.2.2.1,a.2.2.2.1,d) else some a).bind fun d=>some d).bind fun c=>some (Step.next (c.1,c.2.1,Ud (c.2.2.1+1),c.2.2.2)) else some (Step.done a.2.2.2)
def qfh (x:q8):Uc zi7:=(lpO q7p (x.K_,x.K_.len,0,Sl.mk [] false,Sl.mk [] false)).bind fun a=>some a
def q9l:zdN:=qfh
theorem qjr:@Eq zdN P51.F q9l:=by kernel_rfl
def qbr (x:zi2):Uc Z2:=some (decide (x.1.n_=x.2),x.2)
def q6z:zi2->Uc Z2:=qbr
theorem qhs:@Eq ((zi2)->Uc Z2) P52.F q6z:=by kernel_rfl
def qfd (A:zuw):zoV->Uc (Step zoV V5):=fun a=>if decide (a.2.2.1 < a.2.1)=true then (zb a.1 a.2.2.1).bind fun b=>(A (b,a.2.2.2)).bind fun c=>if c.1=true then some (Step.done (inl (a.2.2.1,c.2))) else some (Step.next (a.1,a.2.1,Ud (a.2.2.1+1),c.2)) else some (Step.done (inr a.2.2.2))
def qcr (A:zuw) (x:zb1):Uc yy:=(lpO (qfd A) (x.1,Sl.len x.1,0,x.2)).bind fun a=>elim (fun b=>some b) (fun b=>some (-1,b)) a
def qaw:zb1->Uc yy:=qcr q6z
theorem qiy:@Eq ((zb1)->Uc yy) P53.F qaw:=by delta qaw;rw [<-qhs];kernel_rfl
def qcs (A:zb1->Uc yy) (x:zb1):G9:=(A x).bind fun a=>some a.1
def q24:zb1->G9:=qcs qaw
theorem qay:@Eq ((zb1)->Uc Int) P54.F q24:=by delta q24;rw [<-qiy];kernel_rfl
def qfu (x:ziZ):Uc yI:=if (!x.1)=true then some (inl (x.2.1.a_,x.2.2)) else some (inr ())
def q63:ziZ->Uc yI:=qfu
theorem qg8:@Eq ((ziZ)->Uc yI) P55.F q63:=by kernel_rfl
def qe2 (x:V8):Uc Z2:=some (decide (x.1.T_=x.2),x.2)
def qan:V8->Uc Z2:=qe2
theorem qjm:@Eq ((V8)->Uc Z2) P56.F qan:=by kernel_rfl
def qe5 (A:zim):zdL->Uc (Step zdL V5):=fun a=>if decide (a.2.2.1 < a.2.1)=true then (zb a.1 a.2.2.1).bind fun b=>(A (kg b,a.2.2.2)).bind fun c=>if c.1=true then some (Step.done (inl (a.2.2.1,c.2))) else some (Step.next (a.1,a.2.1,Ud (a.2.2.1+1),c.2)) else some (Step.done (inr a.2.2.2))
def qbs (A:zim) (x:XN):Uc yy:=(lpO (qe5 A) (x.1,Sl.len x.1,0,x.2)).bind fun a=>elim (fun b=>some b) (fun b=>some (-1,b)) a
def qa0:XN->Uc yy:=qbs qan
theorem qht:@Eq ((XN)->Uc yy) P57.F qa0:=by delta qa0;rw [<-qjm];kernel_rfl
def qag (A:zus) (x:XN):Uc Z2:=(A x).bind fun a=>some (decide (0<=a.1),a.2)
def q85:XN->Uc Z2:=qag qa0
theorem qgk:@Eq ((XN)->Uc Z2) P58.F q85:=by delta q85;rw [<-qht];kernel_rfl
def qfi (A:XN->Uc Z2) (x:XN):GG:=(A x).bind fun a=>some a.1
def q9k:XN->GG:=qfi q85
theorem qjs:@Eq ((XN)->Uc Bool) P59.F q9k:=by delta q9k;rw [<-qgk];kernel_rfl
def q7w (x:V8):Uc Z2:=(if decide (x.1.T_=x.2)=true then some (decide (x.1.K_.len=0),x.2) else some (false,x.2)).bind fun a=>some a
def q54:V8->Uc Z2:=q7w
theorem qh5:@Eq ((V8)->Uc Z2) P60.F q54:=by kernel_rfl
def qdl (A:zim):zdL->Uc (Step zdL V5):=fun a=>if decide (a.2.2.1 < a.2.1)=true then (zb a.1 a.2.2.1).bind fun b=>(A (kg b,a.2.2.2)).bind fun c=>if c.1=true then some (Step.done (inl (a.2.2.1,c.2))) else some (Step.next (a.1,a.2.1,Ud (a.2.2.1+1),c.2)) else some (Step.done (inr a.2.2.2))
def qb8 (A:zim) (x:XN):Uc yy:=(lpO (qdl A) (x.1,Sl.len x.1,0,x.2)).bind fun a=>elim (fun b=>some b) (fun b=>some (-1,b)) a
def q9c:XN->Uc yy:=qb8 q54
theorem qh6:@Eq ((XN)->Uc yy) P61.F q9c:=by delta q9c;rw [<-qh5];kernel_rfl
def qca (A:zus) (x:zo5):G9:=(A (x.2.2,x.2.1)).bind fun a=>some a.1
def q2v:zo5->G9:=qca q9c
theorem qcv:@Eq ((zo5)->Uc Int) P62.F q2v:=by delta q2v;rw [<-qh6];kernel_rfl
def q1i:zoL->Uc (Step zoL zdW):=fun a=>if decide (a.2.2.2 < a.2.2.1)=true then (zb a.1 a.2.2.2).bind fun b=>if decide (a.2.1=b)=true then some (Step.done (inl a.2.2.2)) else some (Step.next (a.1,a.2.1,a.2.2.1,Ud (a.2.2.2+1))) else some (Step.done (inr ()))
def q7a (x:ziK):G9:=(lpO q1i (x.1,x.2,Sl.len x.1,0)).bind fun a=>elim (fun b=>some b) (fun b=>some (-1)) a
def q2g:ziK->G9:=q7a
theorem qbv:@Eq ((ziK)->Uc Int) P63.F q2g:=by kernel_rfl
def qad (A:zuE) (B:zdG) (C:zdC) (D:zbZ) (x:zoj):Uc zao:=(A (Sl.mk [lit [111,119,110],lit [99,101,108,108],lit [99,111,117,110,116,101,100],lit [108,111,99,107],lit [103,117,97,114,100]] true,x.2.1.T_)).bind fun a=>(if decide (a=2)=true then some (x.1,x.2.2.1,x.2.2.2.1,a,decide (a=2),(x.2.2.2.2.1.1,a,x.2.2.2.2.1.2.2),x.2.2.2.2.2.1,x.2.2.2.2.2.2,kg x.2.1) else some (x.1,x.2.2.1,x.2.2.2.1,a,decide (a=3),(x.2.2.2.2.1.1,a,x.2.2.2.2.1.2.2),x.2.2.2.2.2.1,x.2.2.2.2.2.2,kg x.2.1)).bind fun b=>(if b.2.2.2.2.1=true then (zb b.2.2.2.2.2.2.2.2.K_ 0).bind fun c=>(B (qa.mk b.2.2.2.2.2.1.1 b.2.2.2.2.2.1.2.1 b.2.2.2.2.2.1.2.2 b.2.2.2.2.2.2.1 b.2.2.2.2.2.2.2.1,c.T_,b.2.1)).bind fun d=>(C (decide (0<=d),kg b.2.2.2.2.2.2.2.2,32)).bind fun e=>elim (fun i=>some (inl (i,(b.2.2.2.2.2.1.1,b.2.2.2.2.2.1.2.1,d),b.2.2.2.2.2.2.1,b.2.2.2.2.2.2.2.1))) (fun i=>some (inr ((b.2.2.2.2.2.1.1,b.2.2.2.2.2.1.2.1,d),b.2.2.2.2.2.2.1,b.2.2.2.2.2.2.2.1))) e else (if decide (b.2.2.2.1=4)=true then (zb b.2.2.2.2.2.2.2.2.K_ 0).bind fun i=>(D (b.1,i.T_)).bind fun j=>(if decide (0<=j)=true then (zb b.1 j).bind fun l=>(C (decide (l.S_=3),kg b.2.2.2.2.2.2.2.2,31)).bind fun m=>elim (fun n=>some (inl (n,(b.2.2.2.2.2.1.1,b.2.2.2.2.2.1.2.1,j),b.2.2.2.2.2.2.1,b.2.2.2.2.2.2.2.1))) (fun n=>some (inr (b.2.1,b.2.2.1,(b.2.2.2.2.2.1.1,b.2.2.2.2.2.1.2.1,j),b.2.2.2.2.2.2.1,b.2.2.2.2.2.2.2.1,kg b.2.2.2.2.2.2.2.2))) m else (C (false,kg b.2.2.2.2.2.2.2.2,31)).bind fun n=>elim (fun o=>some (inl (o,(b.2.2.2.2.2.1.1,b.2.2.2.2.2.1.2.1,j),b.2.2.2.2.2.2.1,b.2.2.2.2.2.2.2.1))) (fun o=>some (inr (b.2.1,b.2.2.1,(b.2.2.2.2.2.1.1,b.2.2.2.2.2.1.2.1,j),b.2.2.2.2.2.2.1,b.2.2.2.2.2.2.2.1,kg b.2.2.2.2.2.2.2.2))) n).bind fun l=>elim (fun m=>some (inl m)) (fun m=>(C (decide (Ud (Sl.len m.1+Sl.len m.2.1)=0),kg m.2.2.2.2.2,32)).bind fun n=>elim (fun o=>some (inl (o,m.2.2.1,m.2.2.2.1,m.2.2.2.2.1))) (fun o=>some (inr (m.2.2.1,m.2.2.2.1,m.2.2.2.2.1))) n) l else some (inr (b.2.2.2.2.2.1,b.2.2.2.2.2.2.1,b.2.2.2.2.2.2.2.1))).bind fun i=>elim (fun j=>some (inl j)) (fun j=>some (inr j)) i).bind fun c=>elim (fun d=>some (inl d)) (fun d=>some (inr d)) c
def q49:zoj->Uc zao:=qad q2g q2v q63 q24
theorem qiz:@Eq ((zoj)->Uc zao) P64.F q49:=by delta q49;rw [<-qbv,<-qcv,<-qg8,<-qay];kernel_rfl
def qd6 (x:V3):Uc (Sl qt):=(if decide (x.1=lit [60])=true then some (inl (Sl.mk [qt.mk x.2.1 x.2.2.1 (Ud (Ud (x.2.2.2.2 - x.2.2.2.1) - 1))] true)) else (if decide (x.1=lit [60,61])=true then some (inl (Sl.mk [qt.mk x.2.1 x.2.2.1 (Ud (x.2.2.2.2 - x.2.2.2.1))] true)) else if decide (x.1=lit [61,61])=true then some (inl (Sl.mk [qt.mk x.2.1 x.2.2.1 (Ud (x.2.2.2.2 - x.2.2.2.1)),qt.mk x.2.2.1 x.2.1 (Ud (x.2.2.2.1 - x.2.2.2.2))] true)) else some (inr ())).bind fun a=>elim (fun b=>some (inl b)) (fun b=>some (inr ())) a).bind fun a=>elim (fun b=>some b) (fun b=>some (Sl.mk [] false)) a
def q9m:V3->Uc (Sl qt):=qd6
theorem qjt:@Eq ((V3)->Uc (Sl qt)) P65.F q9m:=by kernel_rfl
def q8g (A:zdG) (B:zdC) (C:zui):zfX->Uc (Step zfX zyj):=fun a=>if decide (a.2.2.2.1 < a.2.2.1)=true then ((zb a.2.1 a.2.2.2.1).bind fun b=>if decide (b.T_=lit [])=true then some (inl (a.1,a.2.1,a.2.2.1,a.2.2.2.1,a.2.2.2.2.1,a.2.2.2.2.2.1,a.2.2.2.2.2.2.1,kg a.2.2.2.2.2.2.2.1,a.2.2.2.2.2.2.2.2)) else (A (qa.mk a.2.2.2.2.1.1 a.2.2.2.2.1.2.1 a.2.2.2.2.1.2.2 a.2.2.2.2.2.1 a.2.2.2.2.2.2.1,b.T_,a.1)).bind fun c=>(if decide (0<=c)=true then if decide (a.2.2.2.2.1.2.1=2)=true then (B (!decide (c=a.2.2.2.2.1.2.2),kg a.2.2.2.2.2.2.2.1,33)).bind fun d=>elim (fun e=>some (inl (e,a.2.2.2.2.1,a.2.2.2.2.2.1,a.2.2.2.2.2.2.1))) (fun e=>some (inr (a.1,a.2.2.2.1,c,a.2.1,a.2.2.1,a.2.2.2.1,a.2.2.2.2.1,a.2.2.2.2.2.1,a.2.2.2.2.2.2.1,kg a.2.2.2.2.2.2.2.1,a.2.2.2.2.2.2.2.2))) d else if decide (a.2.2.2.2.1.2.1=3)=true then (B (!decide (c=a.2.2.2.2.1.2.2),kg a.2.2.2.2.2.2.2.1,33)).bind fun e=>elim (fun i=>some (inl (i,a.2.2.2.2.1,a.2.2.2.2.2.1,a.2.2.2.2.2.2.1))) (fun i=>some (inr (a.1,a.2.2.2.1,c,a.2.1,a.2.2.1,a.2.2.2.1,a.2.2.2.2.1,a.2.2.2.2.2.1,a.2.2.2.2.2.2.1,kg a.2.2.2.2.2.2.2.1,a.2.2.2.2.2.2.2.2))) e else (B (!false,kg a.2.2.2.2.2.2.2.1,33)).bind fun i=>elim (fun j=>some (inl (j,a.2.2.2.2.1,a.2.2.2.2.2.1,a.2.2.2.2.2.2.1))) (fun j=>some (inr (a.1,a.2.2.2.1,c,a.2.1,a.2.2.1,a.2.2.2.1,a.2.2.2.2.1,a.2.2.2.2.2.1,a.2.2.2.2.2.2.1,kg a.2.2.2.2.2.2.2.1,a.2.2.2.2.2.2.2.2))) i else (B (false,kg a.2.2.2.2.2.2.2.1,33)).bind fun j=>elim (fun l=>some (inl (l,a.2.2.2.2.1,a.2.2.2.2.2.1,a.2.2.2.2.2.2.1))) (fun l=>some (inr (a.1,a.2.2.2.1,c,a.2.1,a.2.2.1,a.2.2.2.1,a.2.2.2.2.1,a.2.2.2.2.2.1,a.2.2.2.2.2.2.1,kg a.2.2.2.2.2.2.2.1,a.2.2.2.2.2.2.2.2))) j).bind fun d=>elim (fun e=>some (inr e)) (fun e=>(bif decide (e.2.1=1) then some (e.1,e.2.2.2.1,e.2.2.2.2.1,e.2.2.2.2.2.1,e.2.2.2.2.2.2.1,e.2.2.2.2.2.2.2.1,e.2.2.2.2.2.2.2.2.1,kg e.2.2.2.2.2.2.2.2.2.1,e.2.2.2.2.2.2.2.2.2.2.1,Ud (e.2.2.1+1)) else bif decide (e.2.1=0) then some (e.1,e.2.2.2.1,e.2.2.2.2.1,e.2.2.2.2.2.1,e.2.2.2.2.2.2.1,e.2.2.2.2.2.2.2.1,e.2.2.2.2.2.2.2.2.1,kg e.2.2.2.2.2.2.2.2.2.1,Ud (e.2.2.1+1),e.2.2.2.2.2.2.2.2.2.2.2) else none).bind fun i=>some (inl (i.1,i.2.1,i.2.2.1,i.2.2.2.1,i.2.2.2.2.1,i.2.2.2.2.2.1,i.2.2.2.2.2.2.1,kg i.2.2.2.2.2.2.2.1,i.2.2.2.2.2.2.2.2))) d).bind fun b=>elim (fun c=>some (Step.next (c.1,c.2.1,c.2.2.1,Ud (c.2.2.2.1+1),c.2.2.2.2.1,c.2.2.2.2.2.1,c.2.2.2.2.2.2.1,kg c.2.2.2.2.2.2.2.1,c.2.2.2.2.2.2.2.2))) (fun c=>some (Step.done (inl c))) b else some (Step.done (inr (a.2.2.2.2.1,a.2.2.2.2.2.1,a.2.2.2.2.2.2.1,kg a.2.2.2.2.2.2.2.1,a.2.2.2.2.2.2.2.2)))
def qao (A:zdG) (B:zdC) (C:zui) (x:zou):Uc zao:=(lpO (q8g A B C) (x.2.1,x.1.K_,x.1.K_.len,0,x.2.2.1,x.2.2.2.1,x.2.2.2.2,kg x.1,0,0)).bind fun a=>elim (fun b=>some (inl b)) (fun b=>(zb b.2.2.2.1.K_ 0).bind fun c=>(zb b.2.2.2.1.K_ 1).bind fun d=>(C (b.2.2.2.1.T_,b.2.2.2.2.1,b.2.2.2.2.2,c.N_,d.N_)).bind fun e=>(zp 24 b.2.2.1 e.xs).bind fun i=>some (inr (b.1,b.2.1,i))) a
def q4x:zou->Uc zao:=qao q2v q63 q9m
theorem qj6:@Eq ((zou)->Uc zao) P66.F q4x:=by delta q4x;rw [<-qcv,<-qg8,<-qjt];kernel_rfl
def q8h (A:zdN) (B:zbZ) (C:zdC) (D:zoU) (E:zdG) (G:tA2) (H:tA9):zn6->Uc (Step zn6 zyp):=fun a=>if decide (a.2.2.2.2.1 < a.2.2.2.1)=true then ((zb a.2.2.1 a.2.2.2.2.1).bind fun b=>(Zg a.2.1 0 a.2.2.2.2.1).bind fun c=>(D (c,b.T_)).bind fun d=>(C (!d,kg b,30)).bind fun e=>elim (fun i=>some (inl i)) (fun i=>(if decide (0 < b.K_.len)=true then (zb b.K_ 0).bind fun j=>(E (qa.mk a.2.2.2.2.2.2.2.2.1.1 a.2.2.2.2.2.2.2.2.1.2.1 a.2.2.2.2.2.2.2.2.1.2.2 a.2.2.2.2.2.2.2.2.2 (Sl.mk [] false),j.T_,a.2.1)).bind fun l=>((zb a.2.2.2.2.2.1.K_ 0).bind fun m=>if decide (m.T_=lit [111,119,110])=true then (C (decide (0<=l),kg b,32)).bind fun n=>elim (fun o=>some (inl o)) (fun o=>some (inr (a.1,a.2.1,l,a.2.2.1,a.2.2.2.1,a.2.2.2.2.1,kg a.2.2.2.2.2.1,a.2.2.2.2.2.2.1,a.2.2.2.2.2.2.2.1,a.2.2.2.2.2.2.2.2.1,kg b,a.2.2.2.2.2.2.2.2.2))) n else (C (false,kg b,32)).bind fun o=>elim (fun p=>some (inl p)) (fun p=>some (inr (a.1,a.2.1,l,a.2.2.1,a.2.2.2.1,a.2.2.2.2.1,kg a.2.2.2.2.2.1,a.2.2.2.2.2.2.1,a.2.2.2.2.2.2.2.1,a.2.2.2.2.2.2.2.2.1,kg b,a.2.2.2.2.2.2.2.2.2))) o).bind fun m=>elim (fun n=>some (inl n)) (fun n=>some (inr (n.1,n.2.1,n.2.2.1,n.2.2.2.1,n.2.2.2.2.1,n.2.2.2.2.2.1,kg n.2.2.2.2.2.2.1,n.2.2.2.2.2.2.2.1,n.2.2.2.2.2.2.2.2.1,n.2.2.2.2.2.2.2.2.2.1,kg n.2.2.2.2.2.2.2.2.2.2.1,n.2.2.2.2.2.2.2.2.2.2.2))) m else some (inr (a.1,a.2.1, -1,a.2.2.1,a.2.2.2.1,a.2.2.2.2.1,kg a.2.2.2.2.2.1,a.2.2.2.2.2.2.1,a.2.2.2.2.2.2.2.1,a.2.2.2.2.2.2.2.2.1,kg b,a.2.2.2.2.2.2.2.2.2))).bind fun j=>elim (fun l=>some (inl l)) (fun l=>(zp 24 l.2.2.2.2.2.2.2.2.2.2.2 [qn.mk l.2.2.2.2.2.2.2.2.2.2.1.T_ l.2.2.1]).bind fun m=>some (inr (l.1,l.2.1,l.2.2.2.1,l.2.2.2.2.1,l.2.2.2.2.2.1,kg l.2.2.2.2.2.2.1,l.2.2.2.2.2.2.2.1,l.2.2.2.2.2.2.2.2.1,l.2.2.2.2.2.2.2.2.2.1,m))) j) e).bind fun b=>elim (fun c=>some (Step.done (inl c))) (fun c=>some (Step.next (c.1,c.2.1,c.2.2.1,c.2.2.2.1,Ud (c.2.2.2.2.1+1),kg c.2.2.2.2.2.1,c.2.2.2.2.2.2))) b else some (Step.done (inr (a.1,a.2.1,kg a.2.2.2.2.2.1,a.2.2.2.2.2.2)))
def q8i (A:zdN) (B:zbZ) (C:zdC) (D:zoU) (E:zdG) (G:tA2) (H:tA9):ztm->Uc (Step ztm ztW):=fun a=>if decide (a.2.2.2.1 < a.2.2.1)=true then (zb a.2.1 a.2.2.2.1).bind fun b=>(H (kg b,a.1,a.2.2.2.2.2)).bind fun c=>elim (fun d=>some (Step.done (inl d.1))) (fun d=>some (Step.next (a.1,a.2.1,a.2.2.1,Ud (a.2.2.2.1+1),a.2.2.2.2.1,d))) c else some (Step.done (inr a.2.2.2.2))
def qap (A:zdN) (B:zbZ) (C:zdC) (D:zoU) (E:zdG) (G:tA2) (H:tA9) (x:GC×q8):Uc zfZ:=(A (kg x.2)).bind fun a=>(B (x.1,x.2.T_)).bind fun b=>(C (decide (b < 0),kg x.2,30)).bind fun c=>elim (fun d=>some (inl d)) (fun d=>(C (decide (Sl.len a.1<=8),kg x.2,22)).bind fun e=>elim (fun i=>some (inl i)) (fun i=>(lpO (q8h A B C D E G H) (x.1,a.1,a.1,Sl.len a.1,0,kg x.2,(lit [],0,0),a.2,(x.2.T_,0,0),Sl.mk [] false)).bind fun j=>elim (fun l=>some (inl l)) (fun l=>(zb l.2.2.1.K_ 0).bind fun m=>(G (l.1,kg m,l.2.1,l.2.2.2.2.1,l.2.2.2.2.2.1,l.2.2.2.2.2.2,Sl.mk [] false)).bind fun n=>elim (fun o=>some (inl o.1)) (fun o=>(lpO (q8i A B C D E G H) (l.2.1,l.2.2.2.2.1,Sl.len l.2.2.2.2.1,0,l.2.2.2.1,o)).bind fun p=>elim (fun r=>some (inl r)) (fun r=>some (inr r.2)) p) n) j) e) c
def q5s:GC×q8->Uc zfZ:=qap q9l q24 q63 q9k q2v q49 q4x
theorem qj7:@Eq ((Sl qa×q8)->Uc zfZ) P67.F q5s:=by delta q5s;rw [<-qjr,<-qay,<-qg8,<-qjs,<-qcv,<-qiz,<-qj6];kernel_rfl
def qcb (x:ziy):Uc xc:=some (x.1.1,x.1.2,x.2.2.2)
def q7l:ziy->Uc xc:=qcb
theorem qif:@Eq ((ziy)->Uc xc) F68 q7l:=by kernel_rfl
def qb9 (x:xc):Uc xc:=some x
def q6k:xc->Uc xc:=qb9
theorem qh7:@Eq ((xc)->Uc xc) F69 q6k:=by kernel_rfl
def qbp (A:ztY) (B:zt9) (C:zup):zf1->Uc (Step zf1 zt8):=fun a=>if decide (a.2.2.1 < a.2.1)=true then (zb a.1 a.2.2.1).bind fun b=>(if decide (b.k_=1)=true then (yV ((A (a.2.2.2.2.2.2,kg b)).bind fun c=>elim (fun d=>some (inl (d,kg a.2.2.2.1,a.2.2.2.2))) (fun d=>(zp 80 a.2.2.2.2.2.2 [qa.mk d.1.1 d.1.2.1 d.1.2.2 d.2.1 d.2.2]).bind fun e=>some (inr (a.1,a.2.1,a.2.2.1,kg a.2.2.2.1,a.2.2.2.2.1,a.2.2.2.2.2.1,e))) c) ((A (a.2.2.2.2.2.2,kg b)).bind fun c=>elim (fun d=>some (inl (d,kg a.2.2.2.1,a.2.2.2.2))) (fun d=>yV ((zp 80 a.2.2.2.2.2.2 [qa.mk d.1.1 d.1.2.1 d.1.2.2 d.2.1 d.2.2]).bind fun e=>some (inr (a.1,a.2.1,a.2.2.1,kg a.2.2.2.1,a.2.2.2.2.1,a.2.2.2.2.2.1,e))) ((zp 80 a.2.2.2.2.2.2 [qa.mk d.1.1 d.1.2.1 d.1.2.2 d.2.1 d.2.2]).bind fun e=>some (inr (a.1,a.2.1,a.2.2.1,kg a.2.2.2.1,a.2.2.2.2.1,a.2.2.2.2.2.1,e)))) c)).bind fun c=>elim (fun d=>some (inl (d.1,kg d.2.1,d.2.2))) (fun d=>some (inr (d.1,d.2.1,d.2.2.1,kg d.2.2.2.1,d.2.2.2.2))) c else some (inr (a.1,a.2.1,a.2.2.1,kg a.2.2.2.1,a.2.2.2.2))).bind fun c=>elim (fun d=>some (Step.done (inl (d.1,kg d.2.1,d.2.2)))) (fun d=>some (Step.next (d.1,d.2.1,Ud (d.2.2.1+1),kg d.2.2.2.1,d.2.2.2.2))) c else some (Step.done (inr (kg a.2.2.2.1,a.2.2.2.2)))
def qd7 (A:ztY) (B:zt9) (C:zup) (x:q8):Uc xc:=(lpO (qbp A B C) (x.K_,x.K_.len,0,kg x,0,0,Sl.mk [] false)).bind fun a=>elim (fun b=>(B (b.1,b.2.2)).bind fun c=>some (c.1,c.2.1,Sl.mk [] false)) (fun b=>(C (0,0,b.2.2.2)).bind fun c=>some c) a
def q6b:ziA:=qd7 q5s q7l q6k
theorem qju:@Eq ziA F70 q6b:=by delta q6b;rw [<-qj7,<-qif,<-qh7];kernel_rfl
def qet (A:zuE) (B:zbZ) (x:vt):Uc (qg×Int):=(A (Sl.mk [lit [],lit [105,110,116],lit [111,119,110],lit [38],lit [38,109,117,116]] true,x.1.T_)).bind fun a=>(if decide (0 < x.1.K_.len)=true then (zb x.1.K_ 0).bind fun b=>(B (x.2,b.T_)).bind fun c=>if decide (c < 0)=true then some (inl (31,qg.mk (lit []) 0 0)) else some (inr (qg.mk (lit []) 0 0,qg.mk (lit []) a c)) else some (inr (qg.mk (lit []) 0 0,qg.mk (lit []) a 0))).bind fun b=>elim (fun c=>some (c.2,c.1)) (fun c=>some (c.2,0)) b
def qa3:vt->Uc (qg×Int):=qet q2g q24
theorem qk5:@Eq ((vt)->Uc (qg×Int)) P71.F qa3:=by delta qa3;rw [<-qbv,<-qay];kernel_rfl
def qfv (x:qg×qg):Uc w7:=some (decide (x.1.n_=x.2.n_),x.2)
def qa5:qg×qg->Uc w7:=qfv
theorem qk0:@Eq ((qg×qg)->Uc w7) P72.F qa5:=by kernel_rfl
def qaq (A:ziG):zdS->Uc (Step zdS ziE):=fun a=>if decide (a.2.1 < a.1)=true then (zb a.2.2.1 a.2.1).bind fun b=>(zb a.2.2.1 a.2.1).bind fun c=>(A (c,a.2.2.2)).bind fun d=>if d.1=true then some (Step.done (inl (a.2.1,a.2.2.1,d.2))) else some (Step.next (a.1,Ud (a.2.1+1),a.2.2.1,d.2)) else some (Step.done (inr a.2.2))
def qd2 (A:ziG) (x:Xi):Uc WL:=(lpO (qaq A) (Sl.len x.1,0,x)).bind fun a=>elim (fun b=>some b) (fun b=>some (-1,b)) a
def qbi:Xi->Uc WL:=qd2 qa5
theorem qj8:@Eq ((Xi)->Uc WL) P73.F qbi:=by delta qbi;rw [<-qk0];kernel_rfl
def qcc (A:zuC) (x:Xi):Uc V6:=(A x).bind fun a=>some (decide (0<=a.1),a.2)
def q50:Xi->Uc V6:=qcc qbi
theorem qig:@Eq ((Xi)->Uc V6) P74.F q50:=by delta q50;rw [<-qj8];kernel_rfl
def qd8 (x:zdX):GG:=(if decide (1 < x.1.M_)=true then (zb x.2 x.1.t_).bind fun a=>some (decide (a.S_≠0)) else some false).bind fun a=>some a
def q76:zdX->GG:=qd8
theorem qjv:@Eq ((zdX)->Uc Bool) P75.F q76:=by kernel_rfl
def qdz (x:qg×qg):Uc w7:=(if decide (1 < x.1.M_)=true then some (decide (x.1.t_=x.2.t_),x.2) else some (false,x.2)).bind fun a=>some a
def q8j:qg×qg->Uc w7:=qdz
theorem qk1:@Eq ((qg×qg)->Uc w7) P76.F q8j:=by kernel_rfl
def qar (A:ziG):zdS->Uc (Step zdS ziE):=fun a=>if decide (a.2.1 < a.1)=true then (zb a.2.2.1 a.2.1).bind fun b=>(zb a.2.2.1 a.2.1).bind fun c=>(A (c,a.2.2.2)).bind fun d=>if d.1=true then some (Step.done (inl (a.2.1,a.2.2.1,d.2))) else some (Step.next (a.1,Ud (a.2.1+1),a.2.2.1,d.2)) else some (Step.done (inr a.2.2))
def qd3 (A:ziG) (x:Xi):Uc WL:=(lpO (qar A) (Sl.len x.1,0,x)).bind fun a=>elim (fun b=>some b) (fun b=>some (-1,b)) a
def qbj:Xi->Uc WL:=qd3 q8j
theorem qj9:@Eq ((Xi)->Uc WL) P77.F qbj:=by delta qbj;rw [<-qk1];kernel_rfl
def qcd (A:zuC) (x:Xi):Uc V6:=(A x).bind fun a=>some (decide (0<=a.1),a.2)
def q51:Xi->Uc V6:=qcd qbj
theorem qih:@Eq ((Xi)->Uc V6) P78.F q51:=by delta q51;rw [<-qj9];kernel_rfl
def qco (A:zuJ) (B:zir) (C:zdX->GG) (D:zir):ztb->Uc (Step ztb zx7):=fun a=>if decide (a.2.2.2.2.1 < a.2.2.2.1)=true then (zb a.2.2.1 a.2.2.2.2.1).bind fun b=>(zb b.K_ 0).bind fun c=>(A (kg c,a.1)).bind fun d=>(B (a.2.2.2.2.2.2.2.2,qg.mk b.T_ d.1.M_ d.1.t_)).bind fun e=>(if e.1=true then some (inl (b.a_,30,lit [],lit [],0,0)) else (if decide (d.2≠0)=true then (zb b.K_ 0).bind fun i=>some (inl (i.a_,d.2,lit [],lit [],0,0)) else ((C (e.2.2,a.1)).bind fun j=>if j=true then (D e.2).bind fun l=>some (a.1,a.2.1,a.2.2.1,a.2.2.2.1,a.2.2.2.2.1,l.1,kg a.2.2.2.2.2.1,a.2.2.2.2.2.2.1,a.2.2.2.2.2.2.2.1,kg b,l.2.2,l.2.1) else some (a.1,a.2.1,a.2.2.1,a.2.2.2.1,a.2.2.2.2.1,false,kg a.2.2.2.2.2.1,a.2.2.2.2.2.2.1,a.2.2.2.2.2.2.2.1,kg b,e.2.2,e.2.1)).bind fun j=>if j.2.2.2.2.2.1=true then (zb j.2.2.2.2.2.2.2.2.2.1.K_ 0).bind fun l=>some (inl (l.a_,34,lit [],lit [],0,0)) else some (inr (j.1,j.2.1,j.2.2.1,j.2.2.2.1,j.2.2.2.2.1,kg j.2.2.2.2.2.2.1,j.2.2.2.2.2.2.2.1,j.2.2.2.2.2.2.2.2.1,j.2.2.2.2.2.2.2.2.2.2))).bind fun i=>elim (fun j=>some (inl j)) (fun j=>some (inr (j.1,j.2.1,j.2.2.1,j.2.2.2.1,j.2.2.2.2.1,kg j.2.2.2.2.2.1,j.2.2.2.2.2.2))) i).bind fun i=>elim (fun j=>some (Step.done (inl j))) (fun j=>(zp 32 j.2.2.2.2.2.2.2.2.2 [j.2.2.2.2.2.2.2.2.1]).bind fun l=>some (Step.next (j.1,j.2.1,j.2.2.1,j.2.2.2.1,Ud (j.2.2.2.2.1+1),kg j.2.2.2.2.2.1,j.2.2.2.2.2.2.1,j.2.2.2.2.2.2.2.1,l))) i else some (Step.done (inr (a.1,a.2.1,kg a.2.2.2.2.2.1,a.2.2.2.2.2.2)))
def qfm (A:zuJ) (B:zir) (C:zdX->GG) (D:zir) (x:vt):Uc zi3:=if decide (8 < Ud (x.1.K_.len - 2))=true then some (qd.mk (lit []) (Sl.mk [] false) (qg.mk (lit []) 0 0),x.1.a_,22) else (Zg x.1.K_ 0 (Ud (x.1.K_.len - 2))).bind fun a=>(lpO (qco A B C D) (x.2,Ud (x.1.K_.len - 2),a,a.len,0,kg x.1,(lit [],lit [],0,0),(x.1.T_,lit [],0,0),Sl.mk [] false)).bind fun b=>elim (fun c=>some (qd.mk c.2.2.1 (Sl.mk [] false) (qg.mk c.2.2.2.1 c.2.2.2.2.1 c.2.2.2.2.2),c.1,c.2.1)) (fun c=>(zb c.2.2.1.K_ c.2.1).bind fun d=>(A (kg d,c.1)).bind fun e=>if decide (e.2≠0)=true then (zb c.2.2.1.K_ c.2.1).bind fun i=>some (qd.mk (lit []) (Sl.mk [] false) (qg.mk (lit []) 0 0),i.a_,e.2) else some (qd.mk c.2.2.2.2.1.1 c.2.2.2.2.2 e.1,0,0)) b
def qas:vt->Uc zi3:=qfm qa3 q50 q76 q51
theorem qkb:@Eq ((vt)->Uc zi3) P79.F qas:=by delta qas;rw [<-qk5,<-qig,<-qjv,<-qih];kernel_rfl
def qbq (A:zuF):zix->Uc (Step zix (zJ⊕Sl qd)):=fun a=>if decide (a.2.2.2.1 < a.2.2.1)=true then ((zb a.2.1 a.2.2.2.1).bind fun b=>if decide (b.k_≠6)=true then some (inl a) else (A (kg b,a.1)).bind fun c=>if decide (c.2.2≠0)=true then some (inr c.2) else (zp 72 a.2.2.2.2 [c.1]).bind fun d=>some (inl (a.1,a.2.1,a.2.2.1,a.2.2.2.1,d))).bind fun b=>elim (fun c=>some (Step.next (c.1,c.2.1,c.2.2.1,Ud (c.2.2.2.1+1),c.2.2.2.2))) (fun c=>some (Step.done (inl c))) b else some (Step.done (inr a.2.2.2.2))
def qeu (A:zuF) (x:vt):Uc ziV:=(lpO (qbq A) (x.2,x.1.K_,x.1.K_.len,0,Sl.mk [] false)).bind fun a=>elim (fun b=>some (b.1,b.2,Sl.mk [] false)) (fun b=>some (0,0,b)) a
def q6u:vt->Uc ziV:=qeu qas
theorem qk6:@Eq ((vt)->Uc ziV) P80.F q6u:=by delta q6u;rw [<-qkb];kernel_rfl
def qdg (x:Int):GG:=(if decide (97<=x)=true then if decide (x<=122)=true then some true else some (decide (x=95)) else some (decide (x=95))).bind fun a=>some a
def q2i:zS:=qdg
theorem qgl:@Eq zS P81.F q2i:=by kernel_rfl
def qdq (x:Int):GG:=(if decide (48<=x)=true then some (decide (x<=57)) else some false).bind fun a=>some a
def q3z:zS:=qdq
theorem qh8:@Eq zS P82.F q3z:=by kernel_rfl
def qdr (x:Zv):GG:=(if decide (x=lit [116,121,112,101])=true then some (decide (x=lit [116,121,112,101])) else (if decide (x=lit [102,110])=true then some (decide (x=lit [102,110])) else (if decide (x=lit [111,119,110])=true then some (decide (x=lit [111,119,110])) else (if decide (x=lit [99,101,108,108])=true then some (decide (x=lit [99,101,108,108])) else (if decide (x=lit [99,111,117,110,116,101,100])=true then some (decide (x=lit [99,111,117,110,116,101,100])) else (if decide (x=lit [108,111,99,107])=true then some (decide (x=lit [108,111,99,107])) else (if decide (x=lit [103,117,97,114,100])=true then some (decide (x=lit [103,117,97,114,100])) else (if decide (x=lit [119,104,101,114,101])=true then some (decide (x=lit [119,104,101,114,101])) else (if decide (x=lit [105,110,116])=true then some (decide (x=lit [105,110,116])) else (if decide (x=lit [109,117,116])=true then some (decide (x=lit [109,117,116])) else (if decide (x=lit [102,114,101,101])=true then some (decide (x=lit [102,114,101,101])) else (if decide (x=lit [117,110,108,111,99,107])=true then some (decide (x=lit [117,110,108,111,99,107])) else (if decide (x=lit [105,102])=true then some (decide (x=lit [105,102])) else (if decide (x=lit [101,108,115,101])=true then some (decide (x=lit [101,108,115,101])) else (if decide (x=lit [119,104,105,108,101])=true then some (decide (x=lit [119,104,105,108,101])) else (if decide (x=lit [114,101,116,117,114,110])=true then some (decide (x=lit [114,101,116,117,114,110])) else (if decide (x=lit [97,98,111,114,116])=true then some (decide (x=lit [97,98,111,114,116])) else (if decide (x=lit [102,111,114,107])=true then some (decide (x=lit [102,111,114,107])) else (if decide (x=lit [110,101,119])=true then some (decide (x=lit [110,101,119])) else some (decide (x=lit [97,114,114,97,121]))).bind fun a=>some a).bind fun a=>some a).bind fun a=>some a).bind fun a=>some a).bind fun a=>some a).bind fun a=>some a).bind fun a=>some a).bind fun a=>some a).bind fun a=>some a).bind fun a=>some a).bind fun a=>some a).bind fun a=>some a).bind fun a=>some a).bind fun a=>some a).bind fun a=>some a).bind fun a=>some a).bind fun a=>some a).bind fun a=>some a).bind fun a=>if a=true then some true else some false
def q3d:WK:=qdr
theorem qh9:@Eq WK P83.F q3d:=by kernel_rfl
def qbm (x:zY):G9:=(if decide (Ud (x.2+1) < (↑(ByteArray.size x.1):Int))=true then (ZI x.1 x.2 (Ud (x.2+2))).bind fun a=>some (x.1,x.2,a) else some (x.1,x.2,lit [])).bind fun a=>(if decide (a.2.2=lit [45,62])=true then some (a.1,a.2.1,true) else if decide (a.2.2=lit [60,61])=true then some (a.1,a.2.1,true) else some (a.1,a.2.1,decide (a.2.2=lit [61,61]))).bind fun b=>if b.2.2=true then some 2 else (Zf b.1 b.2.1).bind fun c=>(if decide (c=123)=true then some (decide (c=123)) else (if decide (c=125)=true then some (decide (c=125)) else (if decide (c=40)=true then some (decide (c=40)) else (if decide (c=41)=true then some (decide (c=41)) else (if decide (c=91)=true then some (decide (c=91)) else (if decide (c=93)=true then some (decide (c=93)) else (if decide (c=44)=true then some (decide (c=44)) else (if decide (c=58)=true then some (decide (c=58)) else (if decide (c=59)=true then some (decide (c=59)) else (if decide (c=61)=true then some (decide (c=61)) else (if decide (c=43)=true then some (decide (c=43)) else (if decide (c=45)=true then some (decide (c=45)) else (if decide (c=38)=true then some (decide (c=38)) else some (decide (c=60))).bind fun d=>some d).bind fun d=>some d).bind fun d=>some d).bind fun d=>some d).bind fun d=>some d).bind fun d=>some d).bind fun d=>some d).bind fun d=>some d).bind fun d=>some d).bind fun d=>some d).bind fun d=>some d).bind fun d=>some d).bind fun d=>if d=true then some 1 else some 0
def q3n:zY->G9:=qbm
theorem qhu:@Eq ((zY)->Uc Int) P84.F q3n:=by kernel_rfl
def q6v (A:zS) (B:zS) (C:WK) (D:wZ):zf5->Uc (Step zf5 zf5):=fun a=>if decide (a.2.2.1 < (↑(ByteArray.size a.1):Int))=true then (Zf a.1 a.2.2.1).bind fun b=>(A b).bind fun c=>(Zf a.1 a.2.2.1).bind fun d=>(B d).bind fun e=>(if (!c)=true then some (a.1,a.2.1,a.2.2.1, !e,a.2.2.2) else some (a.1,a.2.1,a.2.2.1,false,a.2.2.2)).bind fun i=>if i.2.2.2.1=true then some (Step.done (i.1,i.2.1,i.2.2.1,i.2.2.2.2)) else some (Step.next (i.1,i.2.1,Ud (i.2.2.1+1),i.2.2.2.2)) else some (Step.done a)
def q6w (A:zS) (B:zS) (C:WK) (D:wZ):VY->Uc (Step VY VY):=fun a=>if decide (a.2.2.1 < (↑(ByteArray.size a.1):Int))=true then (Zf a.1 a.2.2.1).bind fun b=>(B b).bind fun c=>if (!c)=true then some (Step.done a) else (if decide (a.2.2.2.1<=1099511627776)=true then (Zf a.1 a.2.2.1).bind fun d=>some (a.1,a.2.1,a.2.2.1,Ud (Ud (a.2.2.2.1 * 10)+Ud (IntKind.u8.wrap (d - 48))),a.2.2.2.2) else some a).bind fun d=>(if decide (1099511627776 < d.2.2.2.1)=true then some (d.1,d.2.1,d.2.2.1,d.2.2.2.1,true,d.2.2.2.2.2) else some d).bind fun e=>some (Step.next (e.1,e.2.1,Ud (e.2.2.1+1),e.2.2.2)) else some (Step.done a)
def qc1 (A:zS) (B:zS) (C:WK) (D:wZ) (x:zY):Uc (q9×Int):=(Zf x.1 x.2).bind fun a=>(A a).bind fun b=>(Zf x.1 x.2).bind fun c=>(B c).bind fun d=>(if b=true then (lpO (q6v A B C D) (x.1,x.2,x.2,q9.mk 0 (lit []) 0 0,q9.mk 0 (lit []) 0 x.2)).bind fun e=>(ZI e.1 e.2.1 e.2.2.1).bind fun i=>if decide (16 < (↑i.size:Int))=true then some (inl (13,q9.mk 0 (lit []) 0 0)) else (C i).bind fun j=>(if j=true then some (e.2.2.2.1,q9.mk 2 i e.2.2.2.2.N_ e.2.2.2.2.a_) else some (e.2.2.2.1,q9.mk 1 i e.2.2.2.2.N_ e.2.2.2.2.a_)).bind fun l=>some (inl (0,l.2)) else some (inr (x.1,x.2,x.2,d,q9.mk 0 (lit []) 0 0,q9.mk 0 (lit []) 0 x.2))).bind fun e=>elim (fun i=>some (i.2,i.1)) (fun i=>(if i.2.2.2.1=true then (lpO (q6w A B C D) (i.1,i.2.1,i.2.2.1,0,false,i.2.2.2.2)).bind fun j=>(if decide (j.2.2.1 < (↑(ByteArray.size j.1):Int))=true then (Zf j.1 j.2.2.1).bind fun l=>(A l).bind fun m=>some (j.1,j.2.1,j.2.2.1,j.2.2.2.1,j.2.2.2.2.1,m,j.2.2.2.2.2) else some (j.1,j.2.1,j.2.2.1,j.2.2.2.1,j.2.2.2.2.1,false,j.2.2.2.2.2)).bind fun l=>(if l.2.2.2.2.1=true then some (l.1,l.2.1,l.2.2.1,l.2.2.2.1,true,l.2.2.2.2.2.2) else if l.2.2.2.2.2.1=true then some (l.1,l.2.1,l.2.2.1,l.2.2.2.1,true,l.2.2.2.2.2.2) else (Zf l.1 l.2.1).bind fun m=>if decide (m=48)=true then some (l.1,l.2.1,l.2.2.1,l.2.2.2.1,decide (Ud (l.2.1+1) < l.2.2.1),l.2.2.2.2.2.2) else some (l.1,l.2.1,l.2.2.1,l.2.2.2.1,false,l.2.2.2.2.2.2)).bind fun m=>if m.2.2.2.2.1=true then some (inl (12,q9.mk 0 (lit []) 0 0)) else (ZI m.1 m.2.1 m.2.2.1).bind fun n=>some (inl (0,q9.mk 3 n m.2.2.2.1 m.2.2.2.2.2.2.a_)) else some (inr (i.1,i.2.1,i.2.2.2.2))).bind fun j=>elim (fun l=>some (l.2,l.1)) (fun l=>(D (l.1,l.2.1)).bind fun m=>if decide (m=0)=true then some (q9.mk 0 (lit []) 0 0,11) else (ZI l.1 l.2.1 (Ud (l.2.1+m))).bind fun n=>some (q9.mk 4 n l.2.2.2.N_ l.2.2.2.a_,0)) j) e
def q5v:zY->Uc (q9×Int):=qc1 q2i q3z q3d q3n
theorem qii:@Eq ((zY)->Uc (q9×Int)) P85.F q5v:=by delta q5v;rw [<-qgl,<-qh8,<-qh9,<-qhu];kernel_rfl
def q7b (A:zoQ):vp->Uc (Step vp vp):=fun a=>(if decide (a.2.1 < (↑(ByteArray.size a.1):Int))=true then (Zf a.1 a.2.1).bind fun b=>some (a.1,a.2.1,decide (b≠10),a.2.2) else some (a.1,a.2.1,false,a.2.2)).bind fun b=>if b.2.2.1=true then some (Step.next (b.1,Ud (b.2.1+1),b.2.2.2)) else some (Step.done (b.1,b.2.1,b.2.2.2))
def q7c (A:zoQ):vp->Uc (Step vp zuN):=fun a=>if decide (a.2.1 < (↑(ByteArray.size a.1):Int))=true then (((Zf a.1 a.2.1).bind fun b=>if decide (b=32)=true then some (a.1,a.2.1,true,a.2.2) else (Zf a.1 a.2.1).bind fun c=>some (a.1,a.2.1,decide (c=10),a.2.2)).bind fun b=>if b.2.2.1=true then some (inl (b.1,Ud (b.2.1+1),b.2.2.2)) else (Zf b.1 b.2.1).bind fun c=>if decide (c=35)=true then (lpO (q7b A) (b.1,b.2.1,b.2.2.2)).bind fun d=>some (inl d) else (A (b.1,b.2.1)).bind fun e=>if decide (e.2≠0)=true then some (inr (b.2.1,e.2)) else (zp 40 b.2.2.2 [e.1]).bind fun i=>some (inl (b.1,Ud (b.2.1+(↑e.1.T_.size:Int)),i))).bind fun b=>elim (fun c=>some (Step.next c)) (fun c=>some (Step.done (inl c))) b else some (Step.done (inr (a.1,a.2.2)))
def qaf (A:zoQ) (x:Zv):Uc (Int×Int×GQ):=if decide (16384 < (↑x.size:Int))=true then some (0,10,Sl.mk [] false) else (lpO (q7c A) (x,0,Sl.mk [] false)).bind fun a=>elim (fun b=>some (b.1,b.2,Sl.mk [] false)) (fun b=>(zp 40 b.2 [q9.mk 0 (lit []) 0 (↑(ByteArray.size b.1):Int)]).bind fun c=>some (0,0,c)) a
def q62:zit:=qaf q5v
theorem qgm:@Eq zit P86.F q62:=by delta q62;rw [<-qii];kernel_rfl
def qab (x:Y8):Uc zW:=(zb x.2.2 x.2.1.1).bind fun a=>(zb x.2.2 x.2.1.1).bind fun b=>(if decide (x.2.1.2.2.1=0)=true then if decide (b.k_=2)=true then (zb x.2.2 x.2.1.1).bind fun c=>(zb x.2.2 x.2.1.1).bind fun d=>some (decide (d.T_=x.1),x.2) else if decide (b.k_=4)=true then (zb x.2.2 x.2.1.1).bind fun e=>(zb x.2.2 x.2.1.1).bind fun i=>some (decide (i.T_=x.1),x.2) else some (false,x.2) else some (false,x.2)).bind fun c=>some c
def q1k:Y8->Uc zW:=qab
theorem q6t:@Eq ((Y8)->Uc zW) P87.F q1k:=by kernel_rfl
def q9q (A:yb) (x:Y8):Uc zW:=(A x).bind fun a=>(if a.1=true then some (a.1,(Ud (a.2.1.1+1),a.2.1.2),a.2.2) else some a).bind fun b=>some b
def qu:Y8->Uc zW:=q9q q1k
theorem q1m:@Eq ((Y8)->Uc zW) P88.F qu:=by delta qu;rw [<-q6t];kernel_rfl
def q8o (x:Yd):Uc zC:=(if decide (x.2.1.2.2.1=0)=true then (zb x.2.2 x.2.1.1).bind fun a=>(zb x.2.2 x.2.1.1).bind fun b=>some ((x.2.1.1,x.2.1.2.1,x.1,b.a_),x.2.2) else some x.2).bind fun a=>some a
def q14:Yd->Uc zC:=q8o
theorem q4k:@Eq ((Yd)->Uc zC) P89.F q14:=by kernel_rfl
def q8q (A:wX) (x:zC):Uc Yc:=(zb x.2 x.1.1).bind fun a=>(zb x.2 x.1.1).bind fun b=>(if decide (x.1.2.2.1≠0)=true then some (true,x.1,x.2,(0,lit [],0,0),b) else some (decide (b.k_≠1),x.1,x.2,(0,lit [],0,0),b)).bind fun (c:Bool×(Int×Int×Int×Int)×Sl q9×(Int×Ua×Int×Int)×q9)=>if c.1=true then (A (20,c.2.1,c.2.2.1)).bind fun d=>some ((0,lit [],0,0),d) else some ((5,c.2.2.2.2.T_,0,c.2.2.2.2.a_),(Ud (c.2.1.1+1),c.2.1.2),c.2.2.1)
def q11:zC->Uc Yc:=q8q q14
theorem q34:@Eq ((zC)->Uc Yc) P90.F q11:=by delta q11;rw [<-q4k];kernel_rfl
def q8p (A:yb) (B:wX) (x:Y8):Uc zC:=(A x).bind fun a=>(if (!a.1)=true then (B (20,a.2)).bind fun b=>some b else some a.2).bind fun b=>some b
def qy:Y8->Uc zC:=q8p qu q14
theorem q2q:@Eq ((Y8)->Uc zC) P91.F qy:=by delta qy;rw [<-q1m,<-q4k];kernel_rfl
def q8u (A:yb) (B:XU) (C:Wz) (x:zC):Uc Zt:=(zb x.2 x.1.1).bind fun a=>(zb x.2 x.1.1).bind fun b=>(zb x.2 x.1.1).bind fun c=>(zb x.2 x.1.1).bind fun d=>(A (lit [105,110,116],x)).bind fun e=>if e.1=true then some (q6.mk 8 b.T_ 0 d.a_ (Sl.mk [] false),e.2) else (A (lit [111,119,110],e.2)).bind fun i=>(if (!i.1)=true then (B (lit [38],i.2)).bind fun j=>(A (lit [109,117,116],j)).bind fun l=>(if l.1=true then some (l.2.1,l.2.2,(0,lit [],0,0),8,lit [38,109,117,116],0,d.a_) else some (l.2.1,l.2.2,(0,lit [],0,0),8,b.T_,0,d.a_)).bind fun (m:zkY)=>some m else some (i.2.1,i.2.2,(0,lit [],0,0),8,b.T_,0,d.a_)).bind fun (j:zkY)=>(C (j.1,j.2.1)).bind fun l=>some (q6.mk j.2.2.2.1 j.2.2.2.2.1 j.2.2.2.2.2.1 j.2.2.2.2.2.2 (Sl.mk [q6.mk l.1.1 l.1.2.1 l.1.2.2.1 l.1.2.2.2 (Sl.mk [] false)] true),l.2)
def q2z:zC->Uc Zt:=q8u qu qy q11
theorem qhv:@Eq ((zC)->Uc Zt) P92.F q2z:=by delta q2z;rw [<-q1m,<-q2q,<-q34];kernel_rfl
def q7d (A:wX) (x:zC):Uc Yd:=(zb x.2 x.1.1).bind fun a=>(zb x.2 x.1.1).bind fun b=>(if decide (x.1.2.2.1≠0)=true then some (true,x.1,x.2,b) else some (decide (b.k_≠3),x.1,x.2,b)).bind fun c=>if c.1=true then (A (20,c.2.1,c.2.2.1)).bind fun d=>some (0,d) else some (c.2.2.2.N_,(Ud (c.2.1.1+1),c.2.1.2),c.2.2.1)
def q27:zC->Uc Yd:=q7d q14
theorem q8a:@Eq ((zC)->Uc Yd) P93.F q27:=by delta q27;rw [<-q4k];kernel_rfl
def q8r (A:yb) (B:zia) (x:Zt):Uc Zt:=(A (lit [43],x.2)).bind fun a=>if a.1=true then (B a.2).bind fun b=>some (q6.mk x.1.k_ x.1.T_ b.1 x.1.a_ x.1.K_,b.2) else (A (lit [45],a.2)).bind fun c=>(if c.1=true then (B c.2).bind fun d=>some (d.2.1,d.2.2,q6.mk x.1.k_ x.1.T_ (Ud (0 - d.1)) x.1.a_ x.1.K_,0,lit [],0,0) else some (c.2.1,c.2.2,kr x.1,0,lit [],0,0)).bind fun (d:(Int×Int×Int×Int)×Sl q9×q6×Int×Ua×Int×Int)=>some (kr d.2.2.1,d.1,d.2.1)
def q1y:Zt->Uc Zt:=q8r qu q27
theorem qf3:@Eq ((Zt)->Uc Zt) P94.F q1y:=by delta q1y;rw [<-q1m,<-q8a];kernel_rfl
def q8s (A:zia) (B:yb) (C:Wz) (D:ztS) (x:zC):Uc Zt:=(zb x.2 x.1.1).bind fun a=>(zb x.2 x.1.1).bind fun b=>(zb x.2 x.1.1).bind fun c=>(zb x.2 x.1.1).bind fun d=>if decide (d.k_=3)=true then (A x).bind fun e=>some (q6.mk 5 (lit []) e.1 b.a_ (Sl.mk [] false),e.2) else (B (lit [45],x)).bind fun i=>if i.1=true then (A i.2).bind fun j=>some (q6.mk 5 (lit []) (Ud (0 - j.1)) b.a_ (Sl.mk [] false),j.2) else (C i.2).bind fun l=>(D (q6.mk l.1.1 l.1.2.1 l.1.2.2.1 l.1.2.2.2 (Sl.mk [] false),l.2)).bind fun m=>some (kr m.1,m.2)
def q1o:zC->Uc Zt:=q8s q27 qu q11 q1y
theorem q72:@Eq ((zC)->Uc Zt) P95.F q1o:=by delta q1o;rw [<-q8a,<-q1m,<-q34,<-qf3];kernel_rfl
def q6y (A:yb) (B:wX):zov->Uc (Step zov ztX):=fun a=>if decide (a.1 < Sl.len a.2.2.2)=true then (zb a.2.2.2 a.1).bind fun b=>(zb a.2.2.2 a.1).bind fun c=>(A (c,a.2.1,a.2.2.1)).bind fun d=>if d.1=true then (zb a.2.2.2 a.1).bind fun e=>(zb a.2.2.2 a.1).bind fun i=>some (Step.done (inl (i,d.2))) else some (Step.next (Ud (a.1+1),d.2.1,d.2.2,a.2.2.2)) else some (Step.done (inr (a.2.1,a.2.2.1)))
def q9r (A:yb) (B:wX) (x:zC):Uc Y8:=(lpO (q6y A B) (0,x.1,x.2,Sl.mk [lit [60],lit [60,61],lit [61,61]] true)).bind fun a=>elim (fun b=>some b) (fun b=>(B (20,b)).bind fun c=>some (lit [],c)) a
def q5w:zC->Uc Y8:=q9r qu q14
theorem qij:@Eq ((zC)->Uc Y8) P96.F q5w:=by delta q5w;rw [<-q1m,<-q4k];kernel_rfl
def q6f (A:X8) (B:zC->Uc Y8) (x:zC):Uc ZH:=(A x).bind fun a=>(B a.2).bind fun b=>(A b.2).bind fun c=>some ((4,b.1,0,a.1.a_),c.2.1,c.2.2,Sl.mk [kr a.1,kr c.1] true)
def q1p:Yt:=q6f q1o q5w
theorem qf4:@Eq Yt P97.F q1p:=by delta q1p;rw [<-q72,<-qij];kernel_rfl
def q52 (A:XU) (B:yb) (C:X8):zoH->Uc (Step zoH V1):=fun a=>(B (lit [44],a.1,a.2.1)).bind fun b=>if (!b.1)=true then some (Step.done (b.2.1,b.2.2,a.2.2.2)) else (C b.2).bind fun c=>(zp 64 a.2.2.2 [kr c.1]).bind fun d=>some (Step.next (c.2.1,c.2.2,kr c.1,d))
def q8t (A:XU) (B:yb) (C:X8) (x:zC):Uc V1:=(A (lit [40],x)).bind fun a=>(B (lit [41],a)).bind fun b=>(if b.1=true then some (true,b.2) else some (decide (b.2.1.2.2.1≠0),b.2)).bind fun c=>if c.1=true then some (c.2.1,c.2.2,Sl.mk [] false) else (C c.2).bind fun d=>(lpO (q52 A B C) (d.2.1,d.2.2,kr d.1,Sl.mk [kr d.1] true)).bind fun e=>(A (lit [41],e.1,e.2.1)).bind fun i=>some (i.1,i.2,e.2.2)
def q2y:zC->Uc V1:=q8t qy qu q1o
theorem qcg:@Eq ((zC)->Uc V1) P98.F q2y:=by delta q2y;rw [<-q2q,<-q1m,<-q72];kernel_rfl
def q8v (A:yb) (B:zia) (C:Wz) (D:X8) (E:yb) (G:zoe) (H:XU) (I:ztS) (x:zC):Uc Zt:=(zb x.2 x.1.1).bind fun a=>(zb x.2 x.1.1).bind fun b=>(A (lit [110,101,119],x)).bind fun c=>if c.1=true then (B c.2).bind fun d=>some (q6.mk 23 (lit []) d.1 b.a_ (Sl.mk [] false),d.2) else (A (lit [97,114,114,97,121],c.2)).bind fun e=>if e.1=true then (C e.2).bind fun i=>some (q6.mk 24 i.1.2.1 0 b.a_ (Sl.mk [] false),i.2) else (A (lit [38],e.2)).bind fun j=>if j.1=true then (A (lit [109,117,116],j.2)).bind fun l=>(if l.1=true then some (l.2.1,l.2.2,(0,lit [],0,0),27,lit [],0,b.a_) else some (l.2.1,l.2.2,(0,lit [],0,0),26,lit [],0,b.a_)).bind fun (m:zkY)=>(C (m.1,m.2.1)).bind fun n=>some (q6.mk m.2.2.2.1 n.1.2.1 m.2.2.2.2.2.1 m.2.2.2.2.2.2 (Sl.mk [] false),n.2) else (zb j.2.2 j.2.1.1).bind fun o=>(zb j.2.2 j.2.1.1).bind fun p=>if decide (p.k_≠1)=true then (D j.2).bind fun r=>some (kr r.1,r.2) else (C j.2).bind fun s=>(E (lit [40],s.2)).bind fun t=>if t.1=true then (G t.2).bind fun u=>some (q6.mk 28 s.1.2.1 s.1.2.2.1 s.1.2.2.2 u.2.2,u.1,u.2.1) else (A (lit [91],t.2)).bind fun v=>if v.1=true then (D v.2).bind fun w=>(H (lit [93],w.2)).bind fun z=>some (q6.mk 25 s.1.2.1 s.1.2.2.1 s.1.2.2.2 (Sl.mk [kr w.1] true),z) else (E (lit [43],v.2)).bind fun J=>(E (lit [45],J.2)).bind fun K=>(if J.1=true then (zb K.2.2 (Ud (K.2.1.1+1))).bind fun L=>(zb K.2.2 (Ud (K.2.1.1+1))).bind fun P=>some (K.1,decide (P.k_=1),K.2.1,K.2.2,(0,lit [],0,0),s.1) else if K.1=true then (zb K.2.2 (Ud (K.2.1.1+1))).bind fun Q=>(zb K.2.2 (Ud (K.2.1.1+1))).bind fun R=>some (K.1,decide (R.k_=1),K.2.1,K.2.2,(0,lit [],0,0),s.1) else some (K.1,false,K.2.1,K.2.2,(0,lit [],0,0),s.1)).bind fun (L:Bool×Bool×(Int×Int×Int×Int)×Sl q9×(Int×Ua×Int×Int)×Int×Ua×Int×Int)=>if L.2.1=true then (C ((Ud (L.2.2.1.1+1),L.2.2.1.2),L.2.2.2.1)).bind fun P=>(if L.1=true then some (P.2.1,P.2.2,L.2.2.2.2.1,(22,lit [],0,L.2.2.2.2.2.2.2.2),Sl.mk [q6.mk L.2.2.2.2.2.1 L.2.2.2.2.2.2.1 L.2.2.2.2.2.2.2.1 L.2.2.2.2.2.2.2.2 (Sl.mk [] false),q6.mk P.1.1 P.1.2.1 P.1.2.2.1 P.1.2.2.2 (Sl.mk [] false)] true) else some (P.2.1,P.2.2,L.2.2.2.2.1,(21,lit [],0,L.2.2.2.2.2.2.2.2),Sl.mk [q6.mk L.2.2.2.2.2.1 L.2.2.2.2.2.2.1 L.2.2.2.2.2.2.2.1 L.2.2.2.2.2.2.2.2 (Sl.mk [] false),q6.mk P.1.1 P.1.2.1 P.1.2.2.1 P.1.2.2.2 (Sl.mk [] false)] true)).bind fun (Q:xA)=>some (q6.mk Q.2.2.2.1.1 Q.2.2.2.1.2.1 Q.2.2.2.1.2.2.1 Q.2.2.2.1.2.2.2 Q.2.2.2.2,Q.1,Q.2.1) else (I (q6.mk L.2.2.2.2.2.1 L.2.2.2.2.2.2.1 L.2.2.2.2.2.2.2.1 L.2.2.2.2.2.2.2.2 (Sl.mk [] false),L.2.2.1,L.2.2.2.1)).bind fun R=>some (kr R.1,R.2)
def q5i:zC->Uc Zt:=q8v qu q27 q11 q1o q1k q2y qy q1y
theorem qhw:@Eq ((zC)->Uc Zt) P99.F q5i:=by delta q5i;rw [<-q1m,<-q8a,<-q34,<-q72,<-q6t,<-qcg,<-q2q,<-qf3];kernel_rfl
def qb2 (A:Wz) (B:yb) (C:zoe) (D:yb) (E:X8) (G:XU) (H:X8) (x:zC):Uc ZH:=(A x).bind fun a=>(B (lit [40],a.2)).bind fun b=>if b.1=true then (C b.2).bind fun c=>some ((20,lit [],0,a.1.2.2.2),c.1,c.2.1,Sl.mk [q6.mk 28 a.1.2.1 a.1.2.2.1 a.1.2.2.2 c.2.2] true) else (D (lit [91],b.2)).bind fun d=>if d.1=true then (E d.2).bind fun e=>(G (lit [93],e.2)).bind fun i=>(G (lit [61],i)).bind fun j=>(E j).bind fun l=>some ((11,a.1.2),l.2.1,l.2.2,Sl.mk [kr e.1,kr l.1] true) else (G (lit [61],d.2)).bind fun m=>(H m).bind fun n=>some ((10,a.1.2),n.2.1,n.2.2,Sl.mk [kr n.1] true)
def q6g:Yt:=qb2 q11 q1k q2y qu q1o qy q5i
theorem qha:@Eq Yt zna.F q6g:=by delta q6g;rw [<-q34,<-q6t,<-qcg,<-q1m,<-q72,<-q2q,<-qhw];kernel_rfl
def q4a (A:wW) (B:wW) (x:zdD):Uc ZH:=(A x.2.2).bind fun a=>(B (a.2.1,a.2.2.1)).bind fun b=>(zp 64 a.2.2.2 [q6.mk b.1.1 b.1.2.1 b.1.2.2.1 b.1.2.2.2 b.2.2.2]).bind fun c=>some ((x.1,a.1.2.1,a.1.2.2.1,x.2.1),b.2.1,b.2.2.1,c)
def q1q (h:Yt):zdD->Uc ZH:=q4a q1p h
theorem qdh (h:Yt):@Eq ((zdD)->Uc ZH) (zhT h) (q1q h):=by delta q1q;rw [<-qf4];kernel_rfl
def q6h (A:zdD->Uc ZH) (B:yb) (C:wW) (D:Wz) (E:XU) (G:zia) (H:yb) (I:X8) (J:zoe) (K:wW) (x:zC):Uc ZH:=(zb x.2 x.1.1).bind fun a=>(zb x.2 x.1.1).bind fun b=>(zb x.2 x.1.1).bind fun c=>(zb x.2 x.1.1).bind fun d=>(if decide (d.k_=2)=true then (zb x.2 x.1.1).bind fun e=>(zb x.2 x.1.1).bind fun i=>some (b.a_,i.T_,x.1,x.2,0,lit [],0,0) else some (b.a_,lit [],x.1,x.2,0,lit [],0,0)).bind fun (e:Int×Ua×(Int×Int×Int×Int)×Sl q9×Int×Ua×Int×Int)=>(if decide (e.2.1=lit [105,102])=true then (A (15,e.1,(Ud (e.2.2.1.1+1),e.2.2.1.2),e.2.2.2.1)).bind fun i=>(B (lit [101,108,115,101],i.2.1,i.2.2.1)).bind fun j=>(if j.1=true then (C j.2).bind fun l=>some (l.2.1,l.2.2.1,e.2.2.2.2,i.1,l.1,i.2.2.2,l.2.2.2) else some (j.2.1,j.2.2,e.2.2.2.2,i.1,(9,lit [],0,e.1),i.2.2.2,Sl.mk [] false)).bind fun (l:(Int×Int×Int×Int)×Sl q9×(Int×Ua×Int×Int)×(Int×Ua×Int×Int)×(Int×Ua×Int×Int)×Sl q6×Sl q6)=>(zp 64 l.2.2.2.2.2.1 [q6.mk l.2.2.2.2.1.1 l.2.2.2.2.1.2.1 l.2.2.2.2.1.2.2.1 l.2.2.2.2.1.2.2.2 l.2.2.2.2.2.2]).bind fun m=>some (inl (l.1,l.2.1,l.2.2.2.1,m)) else if decide (e.2.1=lit [119,104,105,108,101])=true then (A (16,e.1,(Ud (e.2.2.1.1+1),e.2.2.1.2),e.2.2.2.1)).bind fun n=>some (inl (n.2.1,n.2.2.1,n.1,n.2.2.2)) else (if decide (e.2.1=lit [102,114,101,101])=true then (D ((Ud (e.2.2.1.1+1),e.2.2.1.2),e.2.2.2.1)).bind fun o=>some (o.2.1,o.2.2,e.2.2.2.2,(12,o.1.2.1,0,e.1),Sl.mk [] false) else (if decide (e.2.1=lit [108,111,99,107])=true then some (e.2.1,e.2.1,decide (e.2.1=lit [108,111,99,107]),e.2.2.1,e.2.2.2.1,e.2.2.2.2,0,lit [],0,e.1) else some (e.2.1,e.2.1,decide (e.2.1=lit [117,110,108,111,99,107]),e.2.2.1,e.2.2.2.1,e.2.2.2.2,0,lit [],0,e.1)).bind fun (p:Ua×Ua×Bool×(Int×Int×Int×Int)×Sl q9×(Int×Ua×Int×Int)×Int×Ua×Int×Int)=>(if p.2.2.1=true then (D ((Ud (p.2.2.2.1.1+1),p.2.2.2.1.2),p.2.2.2.2.1)).bind fun r=>(if decide (p.1=lit [117,110,108,111,99,107])=true then some (r.2.1,r.2.2,p.2.2.2.2.2.1,(14,p.2.2.2.2.2.2.2),r.1) else some (r.2.1,r.2.2,p.2.2.2.2.2.1,(13,p.2.2.2.2.2.2.2),r.1)).bind fun (s:(Int×Int×Int×Int)×Sl q9×(Int×Ua×Int×Int)×(Int×Ua×Int×Int)×Int×Ua×Int×Int)=>(E (lit [91],s.1,s.2.1)).bind fun t=>(G t).bind fun u=>(E (lit [93],u.2)).bind fun v=>some (v.1,v.2,s.2.2.1,(s.2.2.2.1.1,s.2.2.2.2.2.1,u.1,s.2.2.2.1.2.2.2),Sl.mk [] false) else (if decide (p.2.1=lit [114,101,116,117,114,110])=true then (H (lit [59],(Ud (p.2.2.2.1.1+1),p.2.2.2.1.2),p.2.2.2.2.1)).bind fun w=>(if (!w.1)=true then (I w.2).bind fun z=>some (z.2.1,z.2.2,p.2.2.2.2.2.1,(17,p.2.2.2.2.2.2.2),Sl.mk [kr z.1] true) else some (w.2.1,w.2.2,p.2.2.2.2.2.1,(17,p.2.2.2.2.2.2.2),Sl.mk [] false)).bind fun (z:xA)=>some z else (if decide (p.2.1=lit [97,98,111,114,116])=true then some ((Ud (p.2.2.2.1.1+1),p.2.2.2.1.2),p.2.2.2.2.1,p.2.2.2.2.2.1,(18,p.2.2.2.2.2.2.2),Sl.mk [] false) else (if decide (p.2.1=lit [102,111,114,107])=true then (D ((Ud (p.2.2.2.1.1+1),p.2.2.2.1.2),p.2.2.2.2.1)).bind fun L=>(J L.2).bind fun P=>some (P.1,P.2.1,p.2.2.2.2.2.1,(19,L.1.2.1,p.2.2.2.2.2.2.2.2),P.2.2) else (K (p.2.2.2.1,p.2.2.2.2.1)).bind fun Q=>some (Q.2.1,Q.2.2.1,p.2.2.2.2.2.1,Q.1,Q.2.2.2)).bind fun (L:xA)=>some L).bind fun (L:xA)=>some L).bind fun (w:xA)=>some w).bind fun (r:xA)=>some r).bind fun (o:xA)=>some (inr o)).bind fun (i:(Int×Int×Int×Int)×Sl q9×(Int×Ua×Int×Int)×Sl q6⊕(Int×Int×Int×Int)×Sl q9×(Int×Ua×Int×Int)×(Int×Ua×Int×Int)×Sl q6)=>elim (fun j=>some (j.2.2.1,j.1,j.2.1,j.2.2.2)) (fun j=>(E (lit [59],j.1,j.2.1)).bind fun l=>some (j.2.2.2.1,l.1,l.2,j.2.2.2.2)) i
def q2s (h:Yt):Yt:=q6h (q1q h) qu h q11 qy q27 q1k q1o q2y q6g
theorem qek (h:Yt):@Eq Yt (zhU h) (q2s h):=by delta q2s;rw [<-qdh h,<-q1m,<-q34,<-q2q,<-q8a,<-q6t,<-q72,<-qcg,<-qha];kernel_rfl
def q3t (A:yb) (B:wX) (C:XU) (D:yb) (E:wW):xA->Uc (Step xA xA):=fun a=>if decide (a.1.2.2.1=0)=true then (D (lit [125],a.1,a.2.1)).bind fun b=>if b.1=true then some (Step.done (b.2.1,b.2.2,a.2.2)) else (E b.2).bind fun c=>(zp 64 a.2.2.2.2 [q6.mk c.1.1 c.1.2.1 c.1.2.2.1 c.1.2.2.2 c.2.2.2]).bind fun d=>some (Step.next (c.2.1,c.2.2.1,a.2.2.1,a.2.2.2.1,d)) else some (Step.done a)
def q28 (A:yb) (B:wX) (C:XU) (D:yb) (E:wW) (x:zC):Uc ZH:=(zb x.2 x.1.1).bind fun a=>(zb x.2 x.1.1).bind fun b=>(A (lit [123],x)).bind fun c=>(if c.1=true then some (decide (8<=c.2.1.2.1),c.2.1,c.2.2,(0,lit [],0,0),9,lit [],0,b.a_) else some (false,c.2.1,c.2.2,(0,lit [],0,0),9,lit [],0,b.a_)).bind fun d=>(if d.1=true then (B (21,d.2.1,d.2.2.1)).bind fun e=>some (e.1,e.2,d.2.2.2) else some d.2).bind fun e=>(C (lit [123],e.1,e.2.1)).bind fun i=>(lpO (q3t A B C D E) ((i.1.1,Ud (i.1.2.1+1),i.1.2.2),i.2,e.2.2.1,e.2.2.2,Sl.mk [] false)).bind fun j=>some (j.2.2.2.1,(j.1.1,Ud (j.1.2.1 - 1),j.1.2.2),j.2.1,j.2.2.2.2)
def q8b (h:Yt):Yt:=q28 q1k q14 qy qu (q2s h)
theorem qgn (h:Yt):@Eq Yt (zhV h) (q8b h):=by delta q8b;rw [<-q6t,<-q4k,<-q2q,<-q1m,<-qek h];kernel_rfl
def q3s:Nat->zC->Uc ZH
  |0=>fun _=>none
  |k+1=>q8b (q3s k)
theorem q8c:∀ k,@Eq Yt (zfv k) (q3s k)
  |0=>rfl
  |k+1=>(qgn (zfv k)).trans (congrArg q8b (q8c k))
def q53:Yt:=q3s 100000
theorem qhb:@Eq Yt zwL q53:=q8c 100000
def qac (A:Wz) (B:XU) (C:yb) (D:X8) (E:yb) (G:wX) (H:wW):Vr->Uc (Step Vr xA):=fun a=>(if (!a.1)=true then some (a.1,decide (a.2.1.2.2.1=0),a.2) else some (a.1,false,a.2)).bind fun (b:Bool×Bool×(Int×Int×Int×Int)×Sl q9×(Int×Ua×Int×Int)×(Int×Ua×Int×Int)×Sl q6)=>if b.2.1=true then (A (b.2.2.1,b.2.2.2.1)).bind fun c=>(B (lit [58],c.2)).bind fun d=>(D d).bind fun e=>(zp 64 b.2.2.2.2.2.2 [q6.mk 7 c.1.2.1 c.1.2.2.1 c.1.2.2.2 (Sl.mk [kr e.1] true)]).bind fun i=>(C (lit [44],e.2)).bind fun j=>(if (!j.1)=true then (B (lit [41],j.2)).bind fun l=>some (true,l.1,l.2,b.2.2.2.2.1,b.2.2.2.2.2.1,i) else some (b.1,j.2.1,j.2.2,b.2.2.2.2.1,b.2.2.2.2.2.1,i)).bind fun (l:Vr)=>some (Step.next l) else some (Step.done b.2.2)
def qcq (A:Wz) (B:XU) (C:yb) (D:X8) (E:yb) (G:wX) (H:wW) (x:Yd):Uc ZH:=(A x.2).bind fun a=>(B (lit [40],a.2)).bind fun b=>(C (lit [41],b)).bind fun c=>(lpO (qac A B C D E G H) (c.1,c.2.1,c.2.2,(0,lit [],0,0),(6,a.1.2.1,a.1.2.2.1,x.1),Sl.mk [] false)).bind fun d=>(zb d.2.1 d.1.1).bind fun e=>(zb d.2.1 d.1.1).bind fun i=>(C (lit [45,62],d.1,d.2.1)).bind fun j=>(if j.1=true then (E (lit [38],j.2)).bind fun l=>(if l.1=true then (G (20,l.2)).bind fun m=>some (m.1,m.2,d.2.2.1,d.2.2.2.1,(8,lit [],0,i.a_),d.2.2.2.2) else some (l.2.1,l.2.2,d.2.2.1,d.2.2.2.1,(8,lit [],0,i.a_),d.2.2.2.2)).bind fun (m:(Int×Int×Int×Int)×Sl q9×(Int×Ua×Int×Int)×(Int×Ua×Int×Int)×(Int×Ua×Int×Int)×Sl q6)=>(D (m.1,m.2.1)).bind fun n=>some (n.2.1,n.2.2,m.2.2.1,m.2.2.2.1,kr n.1,m.2.2.2.2.2) else some (j.2.1,j.2.2,d.2.2.1,d.2.2.2.1,q6.mk 8 (lit []) 0 i.a_ (Sl.mk [] false),d.2.2.2.2)).bind fun (l:(Int×Int×Int×Int)×Sl q9×(Int×Ua×Int×Int)×(Int×Ua×Int×Int)×q6×Sl q6)=>(H (l.1,l.2.1)).bind fun m=>(zp 64 l.2.2.2.2.2 [kr l.2.2.2.2.1]).bind fun n=>(zp 64 n [q6.mk m.1.1 m.1.2.1 m.1.2.2.1 m.1.2.2.2 m.2.2.2]).bind fun o=>some (l.2.2.2.1,m.2.1,m.2.2.1,o)
def q6i:Yd->Uc ZH:=qcq q11 qy qu q2z q1k q14 q53
theorem qj0:@Eq ((Yd)->Uc ZH) zrH.F q6i:=by delta q6i;rw [<-q34,<-q2q,<-q1m,<-qhv,<-q6t,<-q4k,<-qhb];kernel_rfl
def q3f (A:yb) (B:Wz) (C:wX):ztd->Uc (Step ztd tA6):=fun a=>if decide (a.1 < Sl.len a.2.2.2.2.2)=true then (zb a.2.2.2.2.2 a.1).bind fun b=>(zb a.2.2.2.2.2 a.1).bind fun c=>(A (c,a.2.1,a.2.2.1)).bind fun d=>if d.1=true then (B d.2).bind fun e=>some (Step.done (inl (e.2.1,e.2.2,a.2.2.2.2.1,Sl.mk [q6.mk e.1.1 e.1.2.1 e.1.2.2.1 e.1.2.2.2 (Sl.mk [] false)] true))) else some (Step.next (Ud (a.1+1),d.2.1,d.2.2,a.2.2.2)) else some (Step.done (inr (a.2.1,a.2.2.1,a.2.2.2.1,a.2.2.2.2.1)))
def q8w (A:yb) (B:Wz) (C:wX) (x:zC):Uc Zt:=(zb x.2 x.1.1).bind fun a=>(zb x.2 x.1.1).bind fun b=>(zb x.2 x.1.1).bind fun c=>(zb x.2 x.1.1).bind fun d=>(A (lit [111,119,110],x)).bind fun e=>if e.1=true then some (q6.mk 2 b.T_ 0 d.a_ (Sl.mk [] false),e.2) else (A (lit [99,101,108,108],e.2)).bind fun i=>if i.1=true then some (q6.mk 2 b.T_ 0 d.a_ (Sl.mk [] false),i.2) else (lpO (q3f A B C) (0,i.2.1,i.2.2,(0,lit [],0,0),(2,b.T_,0,d.a_),Sl.mk [lit [99,111,117,110,116,101,100],lit [108,111,99,107],lit [103,117,97,114,100]] true)).bind fun j=>elim (fun l=>some (q6.mk l.2.2.1.1 l.2.2.1.2.1 l.2.2.1.2.2.1 l.2.2.1.2.2.2 l.2.2.2,l.1,l.2.1)) (fun l=>(C (20,l.1,l.2.1)).bind fun m=>some (q6.mk l.2.2.2.1 l.2.2.2.2.1 l.2.2.2.2.2.1 l.2.2.2.2.2.2 (Sl.mk [] false),m)) j
def q3o:zC->Uc Zt:=q8w qu q11 q14
theorem qhy:@Eq ((zC)->Uc Zt) zrI.F q3o:=by delta q3o;rw [<-q1m,<-q34,<-q4k];kernel_rfl
def qb3 (A:Wz) (B:yb) (C:XU) (x:zC):Uc ZH:=(A x).bind fun a=>(B (lit [91],a.2)).bind fun b=>(if b.1=true then (A b.2).bind fun c=>(C (lit [93],c.2)).bind fun d=>some (d.1,d.2,(0,lit [],0,0),(3,a.1.2),Sl.mk [q6.mk c.1.1 c.1.2.1 c.1.2.2.1 c.1.2.2.2 (Sl.mk [] false)] true) else some (b.2.1,b.2.2,(0,lit [],0,0),(3,a.1.2),Sl.mk [] false)).bind fun (c:xA)=>some (c.2.2.2.1,c.1,c.2.1,c.2.2.2.2)
def q3g:Yt:=qb3 q11 qu qy
theorem qhc:@Eq Yt zrJ.F q3g:=by delta q3g;rw [<-q34,<-q1m,<-q2q];kernel_rfl
def qc5 (A:Wz) (B:X8) (C:yb) (D:wW) (E:XU) (G:wW):Vr->Uc (Step Vr xA):=fun a=>if a.1=true then (D (a.2.1,a.2.2.1)).bind fun b=>(zp 64 a.2.2.2.2.2 [q6.mk b.1.1 b.1.2.1 b.1.2.2.1 b.1.2.2.2 b.2.2.2]).bind fun c=>(C (lit [44],b.2.1,b.2.2.1)).bind fun d=>(if (!d.1)=true then (E (lit [125],d.2)).bind fun e=>some (d.1,e.1,e.2,a.2.2.2.1,a.2.2.2.2.1,c) else some (d.1,d.2.1,d.2.2,a.2.2.2.1,a.2.2.2.2.1,c)).bind fun e=>some (Step.next e) else some (Step.done a.2)
def qc6 (A:Wz) (B:X8) (C:yb) (D:wW) (E:XU) (G:wW):Vr->Uc (Step Vr xA):=fun a=>if a.1=true then (G (a.2.1,a.2.2.1)).bind fun b=>(zp 64 a.2.2.2.2.2 [q6.mk b.1.1 b.1.2.1 b.1.2.2.1 b.1.2.2.2 b.2.2.2]).bind fun c=>(C (lit [44],b.2.1,b.2.2.1)).bind fun d=>some (Step.next (d.1,d.2.1,d.2.2,a.2.2.2.1,a.2.2.2.2.1,c)) else some (Step.done a.2)
def qc7 (A:Wz) (B:X8) (C:yb) (D:wW) (E:XU) (G:wW) (x:Yd):Uc ZH:=(A x.2).bind fun a=>(B a.2).bind fun b=>(C (lit [123],b.2)).bind fun c=>(lpO (qc5 A B C D E G) (c.1,c.2.1,c.2.2,(0,lit [],0,0),(1,a.1.2.1,a.1.2.2.1,x.1),Sl.mk [kr b.1] true)).bind fun d=>(C (lit [119,104,101,114,101],d.1,d.2.1)).bind fun e=>(lpO (qc6 A B C D E G) (e.1,e.2.1,e.2.2,d.2.2)).bind fun i=>(E (lit [59],i.1,i.2.1)).bind fun j=>some (i.2.2.2.1,j.1,j.2,i.2.2.2.2)
def q5x:Yd->Uc ZH:=qc7 q11 q3o qu q3g qy q1p
theorem qik:@Eq ((Yd)->Uc ZH) zrK.F q5x:=by delta q5x;rw [<-q34,<-qhy,<-q1m,<-qhc,<-q2q,<-qf4];kernel_rfl
def q6j (A:XP):Int×Int×q6->Uc (Step (Int×Int×q6) Int):=fun a=>if decide (a.2.1 < a.2.2.K_.len)=true then (zb a.2.2.K_ a.2.1).bind fun b=>(A (kr b)).bind fun c=>some (Step.next (Ud (a.1+c),Ud (a.2.1+1),kr a.2.2)) else some (Step.done a.1)
def q9e (A:XP) (x:q6):G9:=(lpO (q6j A) (1,0,kr x)).bind fun a=>some a
def q9f (h:XP):XP:=q9e h
theorem qhd (h:XP):@Eq XP (zhW h) (q9f h):=by kernel_rfl
def q2t:Nat->q6->Uc Int
  |0=>fun _=>none
  |k+1=>q9f (q2t k)
theorem qel:∀ k,@Eq XP (zfw k) (q2t k)
  |0=>rfl
  |k+1=>(qhd (zfw k)).trans (congrArg q9f (qel k))
def q9s:XP:=q2t 100000
theorem qhz:@Eq XP zwO q9s:=qel 100000
def q7v (A:zit) (B:yb) (C:zn3) (D:XU) (E:zn3) (G:XP):zeV->Uc (Step zeV zeV):=fun a=>(if decide (a.2.1.2.2.1=0)=true then (zb a.2.2.2.1 a.2.1.1).bind fun b=>(zb a.2.2.2.1 a.2.1.1).bind fun c=>some (decide (c.k_≠0),a) else some (false,a)).bind fun b=>if b.1=true then ((zb b.2.2.2.2.1 b.2.2.1.1).bind fun c=>(zb b.2.2.2.2.1 b.2.2.1.1).bind fun d=>(B (lit [102,110],b.2.2.1,b.2.2.2.2.1)).bind fun e=>if e.1=true then (C (d.a_,e.2)).bind fun i=>(zp 64 b.2.2.2.2.2 [q6.mk i.1.1 i.1.2.1 i.1.2.2.1 i.1.2.2.2 i.2.2.2]).bind fun j=>some (b.2.1,i.2.1,b.2.2.2.1,i.2.2.1,j) else (D (lit [116,121,112,101],e.2)).bind fun l=>(if decide (l.1.2.2.1=0)=true then (E (d.a_,l)).bind fun m=>(zp 64 b.2.2.2.2.2 [q6.mk m.1.1 m.1.2.1 m.1.2.2.1 m.1.2.2.2 m.2.2.2]).bind fun n=>some (b.2.1,m.2.1,b.2.2.2.1,m.2.2.1,n) else some (b.2.1,l.1,b.2.2.2.1,l.2,b.2.2.2.2.2)).bind fun m=>some m).bind fun c=>some (Step.next c) else some (Step.done b.2)
def qb4 (A:zit) (B:yb) (C:zn3) (D:XU) (E:zn3) (G:XP) (x:Zv):Uc (q6×zJ):=(A x).bind fun a=>if decide (a.2.1≠0)=true then some (q6.mk 0 (lit []) 0 0 (Sl.mk [] false),a.1,a.2.1) else (lpO (q7v A B C D E G) ((0,lit [],0,0),(0,0,0,0),(0,lit [],0,0),a.2.2,Sl.mk [] false)).bind fun b=>if decide (b.2.1.2.2.1≠0)=true then some (q6.mk 0 (lit []) 0 0 (Sl.mk [] false),b.2.1.2.2.2,b.2.1.2.2.1) else (G (q6.mk b.2.2.1.1 b.2.2.1.2.1 b.2.2.1.2.2.1 b.2.2.1.2.2.2 b.2.2.2.2)).bind fun c=>if decide (4096 < c)=true then some (q6.mk 0 (lit []) 0 0 (Sl.mk [] false),0,22) else some (q6.mk b.2.2.1.1 b.2.2.1.2.1 b.2.2.1.2.2.1 b.2.2.1.2.2.2 b.2.2.2.2,0,0)
def q2e:zdI:=qb4 q62 qu q6i qy q5x q9s
theorem qem:@Eq zdI znc.F q2e:=by delta q2e;rw [<-qgm,<-q1m,<-qj0,<-q2q,<-qik,<-qhz];kernel_rfl
def q6l:ziN->Uc (Step ziN G6):=fun a=>if decide (a.2.1 < a.2.2.1.K_.len)=true then (zb a.2.2.1.K_ a.2.1).bind fun b=>(if decide (b.k_=a.1)=true then (zb a.2.2.1.K_ a.2.1).bind fun c=>(zp 64 a.2.2.2 [kr c]).bind fun d=>some (a.1,a.2.1,kr a.2.2.1,d) else some (a.1,a.2.1,kr a.2.2.1,a.2.2.2)).bind fun c=>some (Step.next (c.1,Ud (c.2.1+1),kr c.2.2.1,c.2.2.2)) else some (Step.done a.2.2.2)
def q8x (x:q6×Int):Uc G6:=(lpO q6l (x.2,0,kr x.1,Sl.mk [] false)).bind fun a=>some a
def q1b:zdP:=q8x
theorem qi0:@Eq ((q6×Int)->Uc (Sl q6)) znd.F q1b:=by kernel_rfl
def q55:zo3->Uc (Step zo3 zdW):=fun a=>if decide (a.2.2 < Sl.len a.1)=true then (zb a.1 a.2.2).bind fun b=>if decide (b.n_=a.2.1)=true then some (Step.done (inl a.2.2)) else some (Step.next (a.1,a.2.1,Ud (a.2.2+1))) else some (Step.done (inr ()))
def qbt (x:ziT):G9:=(lpO q55 (x.1,x.2,0)).bind fun a=>elim (fun b=>some b) (fun b=>some (-1)) a
def q15:ziT->G9:=qbt
theorem qch:@Eq ((ziT)->Uc Int) zgH.F q15:=by kernel_rfl
def q4b:zo4->Uc (Step zo4 zdW):=fun a=>if decide (a.2.2 < Sl.len a.1)=true then ((zb a.1 a.2.2).bind fun b=>if decide (b.T_=a.2.1)=true then (zb a.1 a.2.2).bind fun c=>some (a.1,a.2.1,a.2.2,decide (c.K_.len=0)) else some (a.1,a.2.1,a.2.2,false)).bind fun b=>if b.2.2.2=true then some (Step.done (inl b.2.2.1)) else some (Step.next (b.1,b.2.1,Ud (b.2.2.1+1))) else some (Step.done (inr ()))
def qah (x:ziU):G9:=(lpO q4b (x.1,x.2,0)).bind fun a=>elim (fun b=>some b) (fun b=>some (-1)) a
def q1a:ziU->G9:=qah
theorem qgp:@Eq ((ziU)->Uc Int) zne.F q1a:=by kernel_rfl
def q7x (x:V3):Uc (Sl qq):=(if decide (x.1=lit [60])=true then some (x.1,x.2.1,x.2.2.1,x.2.2.2.1,x.2.2.2.2,Sl.mk ([]++[qq.mk x.2.1 x.2.2.1 (Ud (Ud (x.2.2.2.2 - x.2.2.2.1) - 1))]) (false || ![qq.mk x.2.1 x.2.2.1 (Ud (Ud (x.2.2.2.2 - x.2.2.2.1) - 1))].isEmpty)) else some (x.1,x.2.1,x.2.2.1,x.2.2.2.1,x.2.2.2.2,Sl.mk [] false)).bind fun a=>(if decide (a.1=lit [60,61])=true then some (a.1,a.2.1,a.2.2.1,a.2.2.2.1,a.2.2.2.2.1,true,a.2.2.2.2.2) else some (a.1,a.2.1,a.2.2.1,a.2.2.2.1,a.2.2.2.2.1,decide (a.1=lit [61,61]),a.2.2.2.2.2)).bind fun b=>(if b.2.2.2.2.2.1=true then (zp 24 b.2.2.2.2.2.2 [qq.mk b.2.1 b.2.2.1 (Ud (b.2.2.2.2.1 - b.2.2.2.1))]).bind fun c=>some (b.1,b.2.1,b.2.2.1,b.2.2.2.1,b.2.2.2.2.1,c) else some (b.1,b.2.1,b.2.2.1,b.2.2.2.1,b.2.2.2.2.1,b.2.2.2.2.2.2)).bind fun c=>(if decide (c.1=lit [61,61])=true then (zp 24 c.2.2.2.2.2 [qq.mk c.2.2.1 c.2.1 (Ud (c.2.2.2.1 - c.2.2.2.2.1))]).bind fun d=>some d else some c.2.2.2.2.2).bind fun d=>some d
def q19:V3->Uc (Sl qq):=q7x
theorem qhe:@Eq ((V3)->Uc (Sl qq)) znf.F q19:=by kernel_rfl
def q5j (A:zdP) (B:vm) (C:zdK) (D:zdA):zn8->Uc (Step zn8 zx5):=fun a=>if decide (a.2.1 < a.1)=true then (zb a.2.2.2.2.1 a.2.1).bind fun b=>(zb a.2.2.2.2.1 a.2.1).bind fun c=>if decide (c.T_=a.2.2.2.2.2.2.2.2.1.T_)=true then some (Step.done (inl (a.2.2.2.2.2.2.2.2.1.a_,30,a.2.2.1,a.2.2.2.2.2.2.2.1,a.2.2.2.2.2.2.2.2.2))) else some (Step.next (a.1,Ud (a.2.1+1),a.2.2.1,a.2.2.2.1,a.2.2.2.2.1,a.2.2.2.2.2.1,kr a.2.2.2.2.2.2.1,a.2.2.2.2.2.2.2.1,kr a.2.2.2.2.2.2.2.2.1,a.2.2.2.2.2.2.2.2.2)) else some (Step.done (inr (a.1,a.2.2.1,a.2.2.2.1,a.2.2.2.2.1,a.2.2.2.2.2.1,kr a.2.2.2.2.2.2.1,a.2.2.2.2.2.2.2.1,kr a.2.2.2.2.2.2.2.2.1,a.2.2.2.2.2.2.2.2.2)))
def q4g (A:zdP) (B:vm) (C:zdK) (D:zdA):zoa->Uc (Step zoa zya):=fun a=>if decide (a.1 < Sl.len a.2.2.2.1)=true then ((zb a.2.2.2.1 a.1).bind fun b=>(zb a.2.2.2.1 a.1).bind fun c=>(lpO (q5j A B C D) (a.1,0,a.2.1,a.2.2.1,a.2.2.2.1,a.2.2.2.2.1,kr a.2.2.2.2.2.1,a.2.2.2.2.2.2.1,kr c,a.2.2.2.2.2.2.2)).bind fun d=>elim (fun e=>some (inl e)) (fun e=>(if decide (0 < e.2.2.2.2.2.2.2.1.K_.len)=true then (zb e.2.2.2.2.2.2.2.1.K_ 0).bind fun i=>(C (e.2.2.2.1,i.T_)).bind fun j=>(if decide (e.2.2.2.2.2.1.T_≠lit [111,119,110])=true then some (e.1,j,true,e.2.1,e.2.2.1,e.2.2.2.1,e.2.2.2.2.1,kr e.2.2.2.2.2.1,e.2.2.2.2.2.2.1,kr e.2.2.2.2.2.2.2.1,e.2.2.2.2.2.2.2.2) else some (e.1,j,decide (j < 0),e.2.1,e.2.2.1,e.2.2.2.1,e.2.2.2.2.1,kr e.2.2.2.2.2.1,e.2.2.2.2.2.2.1,kr e.2.2.2.2.2.2.2.1,e.2.2.2.2.2.2.2.2)).bind fun l=>if l.2.2.1=true then some (inl (l.2.2.2.2.2.2.2.2.2.1.a_,32,l.2.2.2.1,l.2.2.2.2.2.2.2.2.1,l.2.2.2.2.2.2.2.2.2.2)) else some (inr (l.1,l.2.1,l.2.2.2.1,l.2.2.2.2.1,l.2.2.2.2.2.1,l.2.2.2.2.2.2.1,kr l.2.2.2.2.2.2.2.1,l.2.2.2.2.2.2.2.2.1,kr l.2.2.2.2.2.2.2.2.2.1,l.2.2.2.2.2.2.2.2.2.2)) else some (inr (e.1, -1,e.2.1,e.2.2.1,e.2.2.2.1,e.2.2.2.2.1,kr e.2.2.2.2.2.1,e.2.2.2.2.2.2.1,kr e.2.2.2.2.2.2.2.1,e.2.2.2.2.2.2.2.2))).bind fun i=>elim (fun j=>some (inl j)) (fun j=>(zp 24 j.2.2.2.2.2.2.2.2.2 [qj.mk j.2.2.2.2.2.2.2.2.1.T_ j.2.1]).bind fun l=>some (inr (j.1,j.2.2.1,j.2.2.2.1,j.2.2.2.2.1,j.2.2.2.2.2.1,kr j.2.2.2.2.2.2.1,j.2.2.2.2.2.2.2.1,l))) i) d).bind fun b=>elim (fun c=>some (Step.done (inl c))) (fun c=>some (Step.next (Ud (c.1+1),c.2.1,c.2.2.1,c.2.2.2.1,c.2.2.2.2.1,kr c.2.2.2.2.2.1,c.2.2.2.2.2.2))) b else some (Step.done (inr (a.2.1,a.2.2.1,a.2.2.2.1,a.2.2.2.2.1,kr a.2.2.2.2.2.1,a.2.2.2.2.2.2)))
def q9t (A:zdP) (B:vm) (C:zdK) (D:zdA):zn4->Uc (Step zn4 tA4):=fun a=>if decide (a.2.2.1 < 2)=true then ((zb a.2.2.2.2.2.2.1 a.2.1).bind fun b=>(zb a.2.2.2.2.2.2.1 a.2.1).bind fun c=>(zb c.K_ a.2.2.1).bind fun d=>if decide (d.T_=lit [])=true then some (inl a) else (C (a.2.2.2.2.2.1,d.T_)).bind fun e=>(if decide (e < 0)=true then some (a.1,a.2.1,a.2.2.1,e,true,a.2.2.2) else some (a.1,a.2.1,a.2.2.1,e,decide (e=a.1),a.2.2.2)).bind fun i=>if i.2.2.2.2.1=true then (zb i.2.2.2.2.2.2.2.2.1 i.2.1).bind fun j=>(zb i.2.2.2.2.2.2.2.2.1 i.2.1).bind fun l=>some (inr (l.a_,33,i.2.2.2.2.2.1,i.2.2.2.2.2.2.2.2.2.1,i.2.2.2.2.2.2.2.2.2.2.2)) else (zb i.2.2.2.2.2.2.2.2.2.2.1 i.2.2.1).bind fun m=>(zb i.2.2.2.2.2.2.2.2.2.2.1 i.2.2.1).bind fun n=>some (inl (i.1,i.2.1,i.2.2.1,i.2.2.2.2.2.1,i.2.2.2.2.2.2.1,i.2.2.2.2.2.2.2.1,i.2.2.2.2.2.2.2.2.1,i.2.2.2.2.2.2.2.2.2.1,Sl.set i.2.2.2.2.2.2.2.2.2.2.1 i.2.2.1 (Ud (i.2.2.2.1+1)),i.2.2.2.2.2.2.2.2.2.2.2))).bind fun b=>elim (fun c=>some (Step.next (c.1,c.2.1,Ud (c.2.2.1+1),c.2.2.2))) (fun c=>some (Step.done (inl c))) b else some (Step.done (inr (a.1,a.2.1,a.2.2.2)))
def q5k (A:zdP) (B:vm) (C:zdK) (D:zdA):zte->Uc (Step zte zkX):=fun a=>if decide (a.2.2.1 < Sl.len a.2.2.2.2.2.2.2.2.1)=true then (zb a.2.2.2.2.2.2.2.2.1 a.2.2.1).bind fun b=>(zb a.2.2.2.2.2.2.2.2.1 a.2.2.1).bind fun c=>(zp 24 a.2.2.2.2.2.2.2.2.2.2 [c]).bind fun d=>some (Step.next (a.1,a.2.1,Ud (a.2.2.1+1),a.2.2.2.1,a.2.2.2.2.1,a.2.2.2.2.2.1,a.2.2.2.2.2.2.1,a.2.2.2.2.2.2.2.1,a.2.2.2.2.2.2.2.2.1,a.2.2.2.2.2.2.2.2.2.1,d)) else some (Step.done (a.1,a.2.1,a.2.2.2.1,a.2.2.2.2.1,a.2.2.2.2.2.1,a.2.2.2.2.2.2.1,a.2.2.2.2.2.2.2.1,a.2.2.2.2.2.2.2.2.2))
def q3p (A:zdP) (B:vm) (C:zdK) (D:zdA):zkX->Uc (Step zkX zyb):=fun a=>if decide (a.2.1 < Sl.len a.2.2.2.2.2.1)=true then (lpO (q9t A B C D) (a.1,a.2.1,0,a.2.2.1,a.2.2.2.1,a.2.2.2.2.1,a.2.2.2.2.2.1,a.2.2.2.2.2.2.1,Sl.mk [0,0] true,a.2.2.2.2.2.2.2)).bind fun b=>elim (fun c=>some (Step.done (inl c))) (fun c=>(zb c.2.2.2.2.2.1 c.2.1).bind fun d=>(zb c.2.2.2.2.2.1 c.2.1).bind fun e=>(zb c.2.2.2.2.2.2.2.1 0).bind fun i=>(zb c.2.2.2.2.2.2.2.1 0).bind fun j=>(zb c.2.2.2.2.2.2.2.1 1).bind fun l=>(zb c.2.2.2.2.2.2.2.1 1).bind fun m=>(zb c.2.2.2.2.2.1 c.2.1).bind fun n=>(zb c.2.2.2.2.2.1 c.2.1).bind fun o=>(zb o.K_ 0).bind fun p=>(zb c.2.2.2.2.2.1 c.2.1).bind fun r=>(zb c.2.2.2.2.2.1 c.2.1).bind fun s=>(zb s.K_ 1).bind fun t=>(D (e.T_,j,m,p.N_,t.N_)).bind fun u=>(lpO (q5k A B C D) (c.1,c.2.1,0,c.2.2.1,c.2.2.2.1,c.2.2.2.2.1,c.2.2.2.2.2.1,c.2.2.2.2.2.2.1,u,c.2.2.2.2.2.2.2.2)).bind fun v=>some (Step.next (v.1,Ud (v.2.1+1),v.2.2))) b else some (Step.done (inr (a.2.2.1,a.2.2.2.1,a.2.2.2.2.2.2)))
def q9u (A:zdP) (B:vm) (C:zdK) (D:zdA) (x:wa):Uc ziO:=(A (kr x.1,3)).bind fun a=>(A (kr x.1,4)).bind fun b=>(zb x.1.K_ 0).bind fun c=>(B (x.2,x.1.T_)).bind fun d=>if decide (0<=d)=true then some (qb.mk x.1.T_ 0 0 (Sl.mk [] false) (Sl.mk [] false),x.1.a_,30,x.2) else if decide (8 < a.len)=true then some (qb.mk x.1.T_ 0 0 (Sl.mk [] false) (Sl.mk [] false),x.1.a_,22,x.2) else (lpO (q4g A B C D) (0,x.2,(lit [],0,0),a,b,kr c,(x.1.T_,0,0),Sl.mk [] false)).bind fun e=>elim (fun i=>some (qb.mk i.2.2.2.1.1 i.2.2.2.1.2.1 i.2.2.2.1.2.2 i.2.2.2.2 (Sl.mk [] false),i.1,i.2.1,i.2.2.1)) (fun i=>(if decide (i.2.2.2.2.1.T_=lit [99,101,108,108])=true then some (inl (-1,i.1,i.2.1,i.2.2.1,i.2.2.2.1,(i.2.2.2.2.2.1.1,1,i.2.2.2.2.2.1.2.2),i.2.2.2.2.2.2)) else (if decide (i.2.2.2.2.1.T_=lit [99,111,117,110,116,101,100])=true then some (-1,i.2.2.2.2.1.T_,decide (i.2.2.2.2.1.T_=lit [99,111,117,110,116,101,100]),i.1,i.2.1,i.2.2.1,i.2.2.2.1,kr i.2.2.2.2.1,i.2.2.2.2.2) else some (-1,i.2.2.2.2.1.T_,decide (i.2.2.2.2.1.T_=lit [108,111,99,107]),i.1,i.2.1,i.2.2.1,i.2.2.2.1,kr i.2.2.2.2.1,i.2.2.2.2.2)).bind fun j=>(if j.2.2.1=true then (if decide (j.2.2.2.2.2.2.2.1.T_=lit [108,111,99,107])=true then some (j.2.2.2.1,j.2.2.2.2.1,j.2.2.2.2.2.1,j.2.2.2.2.2.2.1,kr j.2.2.2.2.2.2.2.1,(j.2.2.2.2.2.2.2.2.1.1,3,j.2.2.2.2.2.2.2.2.1.2.2),j.2.2.2.2.2.2.2.2.2) else some (j.2.2.2.1,j.2.2.2.2.1,j.2.2.2.2.2.1,j.2.2.2.2.2.2.1,kr j.2.2.2.2.2.2.2.1,(j.2.2.2.2.2.2.2.2.1.1,2,j.2.2.2.2.2.2.2.2.1.2.2),j.2.2.2.2.2.2.2.2.2)).bind fun l=>(zb l.2.2.2.2.1.K_ 0).bind fun m=>(C (l.2.2.1,m.T_)).bind fun n=>if decide (n < 0)=true then some (inl (l.2.2.2.2.1.a_,32,l.1,l.2.2.2.2.2)) else some (inr (n,l.1,l.2.1,l.2.2.1,l.2.2.2.1,(l.2.2.2.2.2.1.1,l.2.2.2.2.2.1.2.1,n),l.2.2.2.2.2.2)) else (if decide (j.2.1=lit [103,117,97,114,100])=true then (zb j.2.2.2.2.2.2.2.1.K_ 0).bind fun o=>(B (j.2.2.2.1,o.T_)).bind fun p=>if decide (p < 0)=true then some (inl (j.2.2.2.2.2.2.2.1.a_,31,j.2.2.2.1,(j.2.2.2.2.2.2.2.2.1.1,4,p),j.2.2.2.2.2.2.2.2.2)) else (zb j.2.2.2.1 p).bind fun r=>(zb j.2.2.2.1 p).bind fun s=>if decide (s.S_≠3)=true then some (inl (j.2.2.2.2.2.2.2.1.a_,31,j.2.2.2.1,(j.2.2.2.2.2.2.2.2.1.1,4,p),j.2.2.2.2.2.2.2.2.2)) else (if decide (0 < Sl.len j.2.2.2.2.2.1)=true then some (j.1,true,j.2.2.2.1,j.2.2.2.2.1,j.2.2.2.2.2.1,j.2.2.2.2.2.2.1,kr j.2.2.2.2.2.2.2.1,(j.2.2.2.2.2.2.2.2.1.1,4,p),j.2.2.2.2.2.2.2.2.2) else some (j.1,decide (0 < Sl.len j.2.2.2.2.2.2.1),j.2.2.2.1,j.2.2.2.2.1,j.2.2.2.2.2.1,j.2.2.2.2.2.2.1,kr j.2.2.2.2.2.2.2.1,(j.2.2.2.2.2.2.2.2.1.1,4,p),j.2.2.2.2.2.2.2.2.2)).bind fun t=>if t.2.1=true then some (inl (t.2.2.2.2.2.2.1.a_,32,t.2.2.1,t.2.2.2.2.2.2.2)) else some (inr (t.1,t.2.2.1,t.2.2.2.1,t.2.2.2.2.1,t.2.2.2.2.2.1,t.2.2.2.2.2.2.2)) else some (inr (j.1,j.2.2.2.1,j.2.2.2.2.1,j.2.2.2.2.2.1,j.2.2.2.2.2.2.1,j.2.2.2.2.2.2.2.2))).bind fun o=>elim (fun p=>some (inl p)) (fun p=>some (inr p)) o).bind fun l=>elim (fun m=>some (inr m)) (fun m=>some (inl m)) l).bind fun j=>elim (fun l=>(lpO (q3p A B C D) (l.1,0,l.2.1,l.2.2.1,l.2.2.2.1,l.2.2.2.2.1,l.2.2.2.2.2.1,l.2.2.2.2.2.2,Sl.mk [] false)).bind fun m=>elim (fun n=>some (qb.mk n.2.2.2.1.1 n.2.2.2.1.2.1 n.2.2.2.1.2.2 n.2.2.2.2.1 n.2.2.2.2.2,n.1,n.2.1,n.2.2.1)) (fun n=>some (qb.mk n.2.2.1.1 n.2.2.1.2.1 n.2.2.1.2.2 n.2.2.2.1 n.2.2.2.2,0,0,n.1)) m) (fun l=>some (qb.mk l.2.2.2.1.1 l.2.2.2.1.2.1 l.2.2.2.1.2.2 l.2.2.2.2 (Sl.mk [] false),l.1,l.2.1,l.2.2.1)) j) e
def q3x:wa->Uc ziO:=q9u q1b q15 q1a q19
theorem qil:@Eq ((wa)->Uc ziO) zrM.F q3x:=by delta q3x;rw [<-qi0,<-qch,<-qgp,<-qhe];kernel_rfl
def q4m (A:zut):ziY->Uc (Step ziY (zJ⊕G8)):=fun a=>if decide (a.1 < a.2.1.K_.len)=true then ((zb a.2.1.K_ a.1).bind fun b=>if decide (b.k_≠1)=true then some (inl (a.1,kr a.2.1,a.2.2)) else (zb a.2.1.K_ a.1).bind fun c=>(A (kr c,a.2.2)).bind fun d=>if decide (d.2.2.1≠0)=true then some (inr (d.2.1,d.2.2.1)) else (zp 80 d.2.2.2 [d.1]).bind fun e=>some (inl (a.1,kr a.2.1,e))).bind fun b=>elim (fun c=>some (Step.next (Ud (c.1+1),kr c.2.1,c.2.2))) (fun c=>some (Step.done (inl c))) b else some (Step.done (inr a.2.2))
def q7y (A:zut) (x:q6):Uc (Int×Int×G8):=(lpO (q4m A) (0,kr x,Sl.mk [] false)).bind fun a=>elim (fun b=>some (b.1,b.2,Sl.mk [] false)) (fun b=>some (0,0,b)) a
def q2u:ziB:=q7y q3x
theorem qhf:@Eq ziB zrN.F q2u:=by delta q2u;rw [<-qil];kernel_rfl
def q8y (A:vm) (x:wa):Uc zgb:=(if decide (x.1.T_=lit [105,110,116])=true then some (x.2,kr x.1,qf.mk (lit []) 0 0,qf.mk (lit []) 1 0) else (if decide (x.1.T_=lit [111,119,110])=true then some (x.2,kr x.1,qf.mk (lit []) 0 0,qf.mk (lit []) 2 0) else (if decide (x.1.T_=lit [38])=true then some (x.2,kr x.1,qf.mk (lit []) 0 0,qf.mk (lit []) 3 0) else (if decide (x.1.T_=lit [38,109,117,116])=true then some (x.2,kr x.1,qf.mk (lit []) 0 0,qf.mk (lit []) 4 0) else some (x.2,kr x.1,qf.mk (lit []) 0 0,qf.mk (lit []) 0 0)).bind fun a=>some (a.1,kr a.2.1,a.2.2)).bind fun a=>some (a.1,kr a.2.1,a.2.2)).bind fun a=>some (a.1,kr a.2.1,a.2.2)).bind fun a=>(if decide (1 < a.2.2.2.M_)=true then (zb a.2.1.K_ 0).bind fun b=>(A (a.1,b.T_)).bind fun c=>if decide (c < 0)=true then some (inl (false,qf.mk (lit []) 0 0)) else some (inr (a.2.2.1,qf.mk a.2.2.2.n_ a.2.2.2.M_ c)) else some (inr a.2.2)).bind fun b=>elim (fun c=>some (c.2,c.1)) (fun c=>some (c.2,true)) b
def q1z:wa->Uc zgb:=q8y q15
theorem qi1:@Eq ((wa)->Uc zgb) zrO.F q1z:=by delta q1z;rw [<-qch];kernel_rfl
def q5l (A:ziz):ztc->Uc (Step ztc zx4):=fun a=>if decide (a.2.2.2.1 < a.2.2.1)=true then (zb a.2.2.2.2.1.K_ a.2.2.2.1).bind fun b=>if decide (b.T_=a.2.2.2.2.2.2.2.1.T_)=true then some (Step.done (inl (a.2.2.2.2.2.2.2.1.a_,30,lit [],lit [],0,0))) else some (Step.next (a.1,a.2.1,a.2.2.1,Ud (a.2.2.2.1+1),kr a.2.2.2.2.1,a.2.2.2.2.2.1,a.2.2.2.2.2.2.1,kr a.2.2.2.2.2.2.2.1,a.2.2.2.2.2.2.2.2)) else some (Step.done (inr (a.1,a.2.1,a.2.2.1,kr a.2.2.2.2.1,a.2.2.2.2.2.1,a.2.2.2.2.2.2.1,kr a.2.2.2.2.2.2.2.1,a.2.2.2.2.2.2.2.2)))
def q5m (A:ziz):zs9->Uc (Step zs9 tA7):=fun a=>if decide (a.2.2.2.1 < a.2.2.1)=true then (zb a.2.2.2.2.2.2.2.2.2 a.2.2.2.1).bind fun b=>(zb a.2.2.2.2.2.2.2.2.2 a.2.2.2.1).bind fun c=>(if decide (1 < a.2.2.2.2.2.2.2.2.1.M_)=true then if decide (1 < c.M_)=true then if decide (a.2.2.2.2.2.2.2.2.1.t_=c.t_)=true then (zb a.1 a.2.2.2.2.2.2.2.2.1.t_).bind fun d=>some (a.1,a.2.1,a.2.2.1,a.2.2.2.1,decide (d.S_≠0),kr a.2.2.2.2.1,a.2.2.2.2.2.1,a.2.2.2.2.2.2.1,kr a.2.2.2.2.2.2.2.1,a.2.2.2.2.2.2.2.2) else some (a.1,a.2.1,a.2.2.1,a.2.2.2.1,false,kr a.2.2.2.2.1,a.2.2.2.2.2.1,a.2.2.2.2.2.2.1,kr a.2.2.2.2.2.2.2.1,a.2.2.2.2.2.2.2.2) else some (a.1,a.2.1,a.2.2.1,a.2.2.2.1,false,kr a.2.2.2.2.1,a.2.2.2.2.2.1,a.2.2.2.2.2.2.1,kr a.2.2.2.2.2.2.2.1,a.2.2.2.2.2.2.2.2) else some (a.1,a.2.1,a.2.2.1,a.2.2.2.1,false,kr a.2.2.2.2.1,a.2.2.2.2.2.1,a.2.2.2.2.2.2.1,kr a.2.2.2.2.2.2.2.1,a.2.2.2.2.2.2.2.2)).bind fun d=>if d.2.2.2.2.1=true then (zb d.2.2.2.2.2.2.2.2.1.K_ 0).bind fun e=>some (Step.done (inl (e.a_,34,lit [],lit [],0,0))) else some (Step.next (d.1,d.2.1,d.2.2.1,Ud (d.2.2.2.1+1),kr d.2.2.2.2.2.1,d.2.2.2.2.2.2.1,d.2.2.2.2.2.2.2.1,kr d.2.2.2.2.2.2.2.2.1,d.2.2.2.2.2.2.2.2.2)) else some (Step.done (inr (a.1,a.2.1,a.2.2.1,kr a.2.2.2.2.1,a.2.2.2.2.2.1,a.2.2.2.2.2.2.1,kr a.2.2.2.2.2.2.2.1,a.2.2.2.2.2.2.2.2)))
def q5n (A:ziz):zn7->Uc (Step zn7 zx8):=fun a=>if decide (a.2.2.1 < a.2.1)=true then ((zb a.2.2.2.1.K_ a.2.2.1).bind fun b=>(lpO (q5l A) (a.1,a.2.1,a.2.2.1,0,kr a.2.2.2.1,a.2.2.2.2.1,a.2.2.2.2.2.1,kr b,a.2.2.2.2.2.2)).bind fun c=>elim (fun d=>some (inl d)) (fun d=>(zb d.2.2.2.2.2.2.1.K_ 0).bind fun e=>(A (kr e,d.1)).bind fun i=>if (!i.2)=true then (zb d.2.2.2.2.2.2.1.K_ 0).bind fun j=>some (inl (j.a_,31,lit [],lit [],0,0)) else (lpO (q5m A) (d.1,d.2.1,d.2.2.1,0,kr d.2.2.2.1,d.2.2.2.2.1,d.2.2.2.2.2.1,kr d.2.2.2.2.2.2.1,i.1,d.2.2.2.2.2.2.2)).bind fun l=>elim (fun m=>some (inl m)) (fun m=>(zp 32 m.2.2.2.2.2.2.2.2 [qf.mk m.2.2.2.2.2.2.1.T_ m.2.2.2.2.2.2.2.1.M_ m.2.2.2.2.2.2.2.1.t_]).bind fun n=>some (inr (m.1,m.2.1,m.2.2.1,kr m.2.2.2.1,m.2.2.2.2.1,m.2.2.2.2.2.1,n))) l) c).bind fun b=>elim (fun c=>some (Step.done (inl c))) (fun c=>some (Step.next (c.1,c.2.1,Ud (c.2.2.1+1),kr c.2.2.2.1,c.2.2.2.2))) b else some (Step.done (inr (a.1,a.2.1,kr a.2.2.2.1,a.2.2.2.2)))
def q9v (A:ziz) (x:wa):Uc zi4:=if decide (8 < Ud (x.1.K_.len - 2))=true then some (qh.mk (lit []) (Sl.mk [] false) (qf.mk (lit []) 0 0),x.1.a_,22) else (lpO (q5n A) (x.2,Ud (x.1.K_.len - 2),0,kr x.1,(lit [],lit [],0,0),(x.1.T_,lit [],0,0),Sl.mk [] false)).bind fun a=>elim (fun b=>some (qh.mk b.2.2.1 (Sl.mk [] false) (qf.mk b.2.2.2.1 b.2.2.2.2.1 b.2.2.2.2.2),b.1,b.2.1)) (fun b=>(zb b.2.2.1.K_ b.2.1).bind fun c=>(A (kr c,b.1)).bind fun d=>if (!d.2)=true then (zb b.2.2.1.K_ b.2.1).bind fun e=>some (qh.mk (lit []) (Sl.mk [] false) (qf.mk (lit []) 0 0),e.a_,31) else some (qh.mk b.2.2.2.2.1.1 b.2.2.2.2.2 d.1,0,0)) a
def q3y:wa->Uc zi4:=q9v q1z
theorem qim:@Eq ((wa)->Uc zi4) zrP.F q3y:=by delta q3y;rw [<-qi1];kernel_rfl
def q56 (A:zuG):ziL->Uc (Step ziL (zJ⊕Sl qh)):=fun a=>if decide (a.2.1 < a.2.2.1.K_.len)=true then ((zb a.2.2.1.K_ a.2.1).bind fun b=>if decide (b.k_≠6)=true then some (inl (a.1,a.2.1,kr a.2.2.1,a.2.2.2)) else (zb a.2.2.1.K_ a.2.1).bind fun c=>(A (kr c,a.1)).bind fun d=>if decide (d.2.2≠0)=true then some (inr d.2) else (zp 72 a.2.2.2 [d.1]).bind fun e=>some (inl (a.1,a.2.1,kr a.2.2.1,e))).bind fun b=>elim (fun c=>some (Step.next (c.1,Ud (c.2.1+1),kr c.2.2.1,c.2.2.2))) (fun c=>some (Step.done (inl c))) b else some (Step.done (inr a.2.2.2))
def q8z (A:zuG) (x:wa):Uc ziW:=(lpO (q56 A) (x.2,0,kr x.1,Sl.mk [] false)).bind fun a=>elim (fun b=>some (b.1,b.2,Sl.mk [] false)) (fun b=>some (0,0,b)) a
def q2j:wa->Uc ziW:=q8z q3y
theorem qi2:@Eq ((wa)->Uc ziW) zrQ.F q2j:=by delta q2j;rw [<-qim];kernel_rfl
def q45 (A:zdH) (B:ziA) (C:zuz) (D:zdI) (E:ziB) (G:zuA):zh8->Uc (Step zh8 zua):=fun a=>if decide (a.2.2.2.2.1 < a.2.2.2.1)=true then (zb a.2.2.1 a.2.2.2.2.1).bind fun b=>(if decide (b.k_=6)=true then (zp 64 a.2.2.2.2.2.2.2.2.2.1 [kg b]).bind fun c=>(zb a.2.2.2.2.2.2.1.K_ a.2.2.2.2.1).bind fun d=>(zp 64 a.2.2.2.2.2.2.2.2.2.2 [kr d]).bind fun e=>some (a.1,a.2.1,a.2.2.1,a.2.2.2.1,a.2.2.2.2.1,a.2.2.2.2.2.1,kr a.2.2.2.2.2.2.1,a.2.2.2.2.2.2.2.1,a.2.2.2.2.2.2.2.2.1,c,e) else some (a.1,a.2.1,a.2.2.1,a.2.2.2.1,a.2.2.2.2.1,a.2.2.2.2.2.1,kr a.2.2.2.2.2.2.1,a.2.2.2.2.2.2.2)).bind fun c=>some (Step.next (c.1,c.2.1,c.2.2.1,c.2.2.2.1,Ud (c.2.2.2.2.1+1),c.2.2.2.2.2.1,kr c.2.2.2.2.2.2.1,c.2.2.2.2.2.2.2)) else some (Step.done (a.1,a.2.1,a.2.2.2.2.2.1,a.2.2.2.2.2.2.2))
def q70 (A:zdH) (B:ziA) (C:zuz) (D:zdI) (E:ziB) (G:zuA) (x:Zv):Uc (qz×Bool):=(A x).bind fun a=>if decide (a.2.2≠0)=true then some (qz.mk (Sl.mk [] false) (Sl.mk [] false) (Sl.mk [] false) (Sl.mk [] false) (Sl.mk [] false) (Sl.mk [] false),false) else (B (kg a.1)).bind fun b=>(C (kg a.1,b.2.2)).bind fun c=>(D x).bind fun d=>(E (kr d.1)).bind fun e=>(G (kr d.1,e.2.2)).bind fun i=>(lpO (q45 A B C D E G) (b.2.1,c.2.1,a.1.K_,a.1.K_.len,0,c.2.2,kr d.1,i.2.2,(b.2.2,e.2.2),Sl.mk [] false,Sl.mk [] false)).bind fun j=>(if decide (j.1=0)=true then if decide (j.2.1=0)=true then if decide (Sl.len j.2.2.1=Sl.len j.2.2.2.2.2.1)=true then some (decide (Sl.len j.2.2.2.1=Sl.len j.2.2.2.2.2.1),j.2.2.2.2.1,j.2.2.2.2.2.1,j.2.2.1,j.2.2.2.2.2.2,j.2.2.2.1) else some (false,j.2.2.2.2.1,j.2.2.2.2.2.1,j.2.2.1,j.2.2.2.2.2.2,j.2.2.2.1) else some (false,j.2.2.2.2.1,j.2.2.2.2.2.1,j.2.2.1,j.2.2.2.2.2.2,j.2.2.2.1) else some (false,j.2.2.2.2.1,j.2.2.2.2.2.1,j.2.2.1,j.2.2.2.2.2.2,j.2.2.2.1)).bind fun l=>some (qz.mk l.2.2.1 l.2.1.1 l.2.2.2.1 l.2.2.2.2.1 l.2.1.2 l.2.2.2.2.2,l.1)
def q2x:ziD:=q70 q5h q6b q6u q2e q2u q2j
theorem qgb:@Eq ziD zrR.F q2x:=by delta q2x;rw [<-qh4,<-qju,<-qk6,<-qem,<-qhf,<-qi2];kernel_rfl
def qbu (x:zin):Uc xO:=if (!x.1)=true then some (inl ((x.2.2.1.2.2,x.2.1),x.2.2)) else some (inr x.2.2)
def q30:zin->Uc xO:=qbu
theorem qf5:@Eq ((zin)->Uc xO) zj2.F q30:=by kernel_rfl
def qai (A:zs7) (x:zoz):Uc xO:=(A (x.2.1,x.2.2.1,(x.2.2.2.1.1,x.2.2.2.1.2.1,x.1.a_),x.2.2.2.2)).bind fun a=>elim (fun b=>some (inl b)) (fun b=>some (inr b)) a
def q1w:zoz->Uc xO:=qai q30
theorem qds:@Eq ((zoz)->Uc xO) zng.F q1w:=by delta q1w;rw [<-qf5];kernel_rfl
def qd4 (x:zi5):Uc Z2:=some (decide (x.1.n_=x.2),x.2)
def q73:zi5->Uc Z2:=qd4
theorem qja:@Eq ((zi5)->Uc Z2) znh.F q73:=by kernel_rfl
def q5z (A:zux):zoW->Uc (Step zoW V5):=fun a=>if decide (a.2.2.1 < a.2.1)=true then (zb a.1 a.2.2.1).bind fun b=>(A (b,a.2.2.2)).bind fun c=>if c.1=true then some (Step.done (inl (a.2.2.1,c.2))) else some (Step.next (a.1,a.2.1,Ud (a.2.2.1+1),c.2)) else some (Step.done (inr a.2.2.2))
def qct (A:zux) (x:ziX):Uc yy:=(lpO (q5z A) (x.1,Sl.len x.1,0,x.2)).bind fun a=>elim (fun b=>some b) (fun b=>some (-1,b)) a
def qax:ziX->Uc yy:=qct q73
theorem qj1:@Eq ((ziX)->Uc yy) zrS.F qax:=by delta qax;rw [<-qja];kernel_rfl
def qe3 (A:ziX->Uc yy) (x:qc×Ua):G9:=(A (x.1.V_,x.2)).bind fun a=>some a.1
def q48:ziH:=qe3 qax
theorem qf6:@Eq ((qc×Ua)->Uc Int) zj3.F q48:=by delta q48;rw [<-qj1];kernel_rfl
def q41 (A:zkU) (B:ziH) (C:zbZ) (D:zs7):zn5->Uc (Step zn5 zyc):=fun a=>if decide (a.2.2.2.1 < a.2.2.1)=true then ((zb a.2.1 a.2.2.2.1).bind fun b=>(zb b.K_ 0).bind fun c=>(B (qc.mk a.2.2.2.2.2.2.2.2.1.1 a.2.2.2.2.2.2.2.2.1.2 a.2.2.2.2.2.2.2.2.2,b.T_)).bind fun d=>(A (kg b,decide (d < 0),30,a.2.2.2.2.1,a.2.2.2.2.2.1)).bind fun e=>elim (fun i=>some (inl i)) (fun i=>(if decide (c.T_=lit [105,110,116])=true then (A (kg c,true,34,i)).bind fun j=>elim (fun l=>some (inl l)) (fun l=>some (inr (a.1,a.2.1,a.2.2.1,a.2.2.2.1,l.1,l.2,kg a.2.2.2.2.2.2.1,a.2.2.2.2.2.2.2.1,a.2.2.2.2.2.2.2.2.1,kg b,kg c,a.2.2.2.2.2.2.2.2.2))) j else (A (kg c,decide (c.T_=lit [111,119,110]),34,i)).bind fun l=>elim (fun m=>some (inl m)) (fun m=>some (inr (a.1,a.2.1,a.2.2.1,a.2.2.2.1,m.1,m.2,kg a.2.2.2.2.2.2.1,a.2.2.2.2.2.2.2.1,a.2.2.2.2.2.2.2.2.1,kg b,kg c,a.2.2.2.2.2.2.2.2.2))) l).bind fun j=>elim (fun l=>some (inl l)) (fun l=>(if decide (l.2.2.2.2.2.2.2.2.2.2.1.T_=lit [111,119,110])=true then (zb l.2.2.2.2.2.2.2.2.2.2.1.K_ 0).bind fun m=>(C (l.2.2.2.2.1.2.1,m.T_)).bind fun n=>(D (decide (0<=n),31,l.2.2.2.2.1,l.2.2.2.2.2.1)).bind fun o=>elim (fun p=>some (inl p)) (fun p=>some (inr (l.1,l.2.1,l.2.2.1,l.2.2.2.1,p.1,p.2,kg l.2.2.2.2.2.2.1,l.2.2.2.2.2.2.2.1,l.2.2.2.2.2.2.2.2.1,qg.mk l.2.2.2.2.2.2.2.2.2.1.T_ 2 n,l.2.2.2.2.2.2.2.2.2.2.2))) o else some (inr (l.1,l.2.1,l.2.2.1,l.2.2.2.1,l.2.2.2.2.1,l.2.2.2.2.2.1,kg l.2.2.2.2.2.2.1,l.2.2.2.2.2.2.2.1,l.2.2.2.2.2.2.2.2.1,qg.mk l.2.2.2.2.2.2.2.2.2.1.T_ 1 0,l.2.2.2.2.2.2.2.2.2.2.2))).bind fun m=>elim (fun n=>some (inl n)) (fun n=>(zp 32 n.2.2.2.2.2.2.2.2.2.2 [n.2.2.2.2.2.2.2.2.2.1]).bind fun o=>some (inr (n.1,n.2.1,n.2.2.1,n.2.2.2.1,n.2.2.2.2.1,n.2.2.2.2.2.1,kg n.2.2.2.2.2.2.1,n.2.2.2.2.2.2.2.1,n.2.2.2.2.2.2.2.2.1,o))) m) j) e).bind fun b=>elim (fun c=>some (Step.done (inl c))) (fun c=>some (Step.next (c.1,c.2.1,c.2.2.1,Ud (c.2.2.2.1+1),c.2.2.2.2.1,c.2.2.2.2.2.1,kg c.2.2.2.2.2.2.1,c.2.2.2.2.2.2.2))) b else some (Step.done (inr (a.1,a.2.2.2.2.1,a.2.2.2.2.2.1,kg a.2.2.2.2.2.2.1,a.2.2.2.2.2.2.2)))
def q90 (A:zkU) (B:ziH) (C:zbZ) (D:zs7) (x:zoR):Uc zkW:=(A (kg x.1,decide (Ud (x.1.K_.len - 2)<=8),22,x.2)).bind fun a=>elim (fun b=>some (inl b)) (fun b=>(Zg x.1.K_ 0 (Ud (x.1.K_.len - 2))).bind fun c=>(lpO (q41 A B C D) (Ud (x.1.K_.len - 2),c,c.len,0,b.1,b.2,kg x.1,(lit [],0),(x.1.T_,Ud (x.1.K_.len - 2)),Sl.mk [] false)).bind fun d=>elim (fun e=>some (inl e)) (fun e=>(zb e.2.2.2.1.K_ e.1).bind fun i=>(zb e.2.2.2.1.K_ e.1).bind fun j=>(A (kg i,decide (j.T_=lit []),35,e.2.1,e.2.2.1)).bind fun l=>elim (fun m=>some (inl m)) (fun m=>some (inr (e.2.2.2.2.2.1,m.1,m.2,e.2.2.2.2.2.2))) l) d) a
def q31:zoR->Uc zkW:=q90 q1w q48 q24 q30
theorem qi3:@Eq ((zoR)->Uc zkW) zrU.F q31:=by delta q31;rw [<-qds,<-qf6,<-qay,<-qf5];kernel_rfl
def qaj (x:zih):Uc zO:=if (!x.1)=true then some (inl ((x.2.2.1.2.2.1,x.2.1),x.2.2)) else some (inr x.2.2)
def q13:zih->Uc zO:=qaj
theorem q2r:@Eq ((zih)->Uc zO) Wo.F q13:=by kernel_rfl
def q81 (A:ziH) (B:Wy) (x:zoA):Uc WA:=(zb x.2.2 x.2.1.2.2.2).bind fun a=>(zb x.2.2 x.2.1.2.2.2).bind fun b=>(A (qc.mk a.n_ a.P_ b.V_,x.1)).bind fun c=>(B (decide (0<=c),31,x.2)).bind fun d=>elim (fun e=>some (inl e)) (fun e=>(zb e.2 e.1.2.2.2).bind fun i=>(zb e.2 e.1.2.2.2).bind fun j=>(zb j.V_ c).bind fun l=>(zb e.2 e.1.2.2.2).bind fun m=>(zb m.V_ c).bind fun n=>some (inr (qg.mk (lit []) n.M_ n.t_,e))) d
def q42:zoA->Uc WA:=q81 q48 q13
theorem qen:@Eq ((zoA)->Uc WA) zni.F q42:=by delta q42;rw [<-qf6,<-q2r];kernel_rfl
def qak (x:qd×q8):Uc zgc:=some (decide (x.1.n_=x.2.T_),kg x.2)
def q4q:qd×q8->Uc zgc:=qak
theorem qgq:@Eq ((qd×q8)->Uc zgc) znj.F q4q:=by kernel_rfl
def q74 (A:zuP):zo6->Uc (Step zo6 (Int×q8⊕q8)):=fun a=>if decide (a.2.2.1 < a.2.1)=true then (zb a.1 a.2.2.1).bind fun b=>(A (b,kg a.2.2.2)).bind fun c=>if c.1=true then some (Step.done (inl (a.2.2.1,kg c.2))) else some (Step.next (a.1,a.2.1,Ud (a.2.2.1+1),kg c.2)) else some (Step.done (inr (kg a.2.2.2)))
def qbh (A:zuP) (x:Sl qd×q8):Uc (Int×q8):=(lpO (q74 A) (x.1,Sl.len x.1,0,kg x.2)).bind fun a=>elim (fun b=>some (b.1,kg b.2)) (fun b=>some (-1,kg b)) a
def q7q:Sl qd×q8->Uc (Int×q8):=qbh q4q
theorem qjj:@Eq ((Sl qd×q8)->Uc (Int×q8)) zrV.F q7q:=by delta q7q;rw [<-qgq];kernel_rfl
def q9x (A:Wy) (B:zx6) (x:zoF):Uc zO:=if decide (x.1.T_=lit [])=true then (A (decide (x.2.1.M_=1),40,x.2.2)).bind fun a=>elim (fun b=>some (inl b)) (fun b=>some (inr b)) a else (B (x.1.T_,x.2.2)).bind fun b=>elim (fun c=>some (inl c)) (fun c=>(if decide (x.2.1.M_=1)=true then (A (decide (c.1.M_=1),40,c.2)).bind fun d=>elim (fun e=>some (inl e)) (fun e=>some (inr e)) d else (if decide (x.2.1.M_=3)=true then some (decide (c.1.M_=4),c.2.1,c.2.2,kg x.1,x.2.1,c.1) else some (false,c.2.1,c.2.2,kg x.1,x.2.1,c.1)).bind fun e=>(if e.1=true then (if decide (e.2.2.2.1.N_=0)=true then (A (decide (e.2.2.2.2.2.t_=e.2.2.2.2.1.t_),40,e.2.1,e.2.2.1)).bind fun i=>elim (fun j=>some (inl j)) (fun j=>some (inr j)) i else (A (false,40,e.2.1,e.2.2.1)).bind fun j=>elim (fun l=>some (inl l)) (fun l=>some (inr l)) j).bind fun i=>elim (fun j=>some (inl j)) (fun j=>some (inr j)) i else (if decide (e.2.2.2.1.N_=0)=true then if decide (e.2.2.2.2.2.M_=e.2.2.2.2.1.M_)=true then (A (decide (e.2.2.2.2.2.t_=e.2.2.2.2.1.t_),40,e.2.1,e.2.2.1)).bind fun j=>elim (fun l=>some (inl l)) (fun l=>some (inr l)) j else (A (false,40,e.2.1,e.2.2.1)).bind fun l=>elim (fun m=>some (inl m)) (fun m=>some (inr m)) l else (A (false,40,e.2.1,e.2.2.1)).bind fun m=>elim (fun n=>some (inl n)) (fun n=>some (inr n)) m).bind fun j=>elim (fun l=>some (inl l)) (fun l=>some (inr l)) j).bind fun i=>elim (fun j=>some (inl j)) (fun j=>some (inr j)) i).bind fun d=>elim (fun e=>some (inl e)) (fun e=>some (inr e)) d) b
def q1e:zoF->Uc zO:=q9x q13 q42
theorem qcw:@Eq ((zoF)->Uc zO) zgI.F q1e:=by delta q1e;rw [<-q2r,<-qen];kernel_rfl
def q6m (A:Wy) (B:zeU):zol->Uc (Step zol zO):=fun a=>if decide (a.2.2.2.1 < a.2.2.1)=true then (zb a.2.1 a.2.2.2.1).bind fun b=>(zb a.1 a.2.2.2.1).bind fun c=>(B (kg b,c,a.2.2.2.2)).bind fun d=>elim (fun e=>some (Step.done (inl e))) (fun e=>some (Step.next (a.1,a.2.1,a.2.2.1,Ud (a.2.2.2.1+1),e))) d else some (Step.done (inr a.2.2.2.2))
def q91 (A:Wy) (B:zeU) (x:zig):Uc zO:=(A (decide (Sl.len x.1=Sl.len x.2.1),51,x.2.2)).bind fun a=>elim (fun b=>some (inl b)) (fun b=>(lpO (q6m A B) (x.2.1,x.1,Sl.len x.1,0,b)).bind fun c=>elim (fun d=>some (inl d)) (fun d=>some (inr d)) c) a
def q5o:zig->Uc zO:=q91 q13 q1e
theorem qi4:@Eq ((zig)->Uc zO) zrX.F q5o:=by delta q5o;rw [<-q2r,<-qcw];kernel_rfl
def q92 (A:Sl qd×q8->Uc (Int×q8)) (B:Wy) (C:zig->Uc zO) (x:zdE):Uc WA:=(A (x.2.1.1,kg x.1)).bind fun a=>(B (decide (0<=a.1),31,x.2)).bind fun b=>elim (fun c=>some (inl c)) (fun c=>(zb c.1.1 a.1).bind fun d=>(C (a.2.K_,d.P_,c)).bind fun e=>elim (fun i=>some (inl i)) (fun i=>(zb i.1.1 a.1).bind fun j=>some (inr (j.R_,i))) e) b
def q1t:zdE->Uc WA:=q92 q7q q13 q5o
theorem qf7:@Eq ((zdE)->Uc WA) zj4.F q1t:=by delta q1t;rw [<-qjj,<-q2r,<-qi4];kernel_rfl
def q93 (A:zx6) (B:Wy) (C:zn0) (x:zdE):Uc zob:=(if decide (x.1.k_=5)=true then if decide (x.1.T_=lit [])=true then some (inl (x.2.1,x.2.2,qg.mk (lit []) 1 0)) else (A (x.1.T_,x.2)).bind fun a=>elim (fun b=>some (inr (inl b))) (fun b=>(if decide (x.1.N_=0)=true then (B (true,40,b.2)).bind fun c=>elim (fun d=>some (inl d)) (fun d=>some (inr (d.1,d.2,qg.mk (lit []) 0 0,b.1))) c else (B (decide (b.1.M_=1),40,b.2)).bind fun d=>elim (fun e=>some (inl e)) (fun e=>some (inr (e.1,e.2,qg.mk (lit []) 0 0,b.1))) d).bind fun c=>elim (fun d=>some (inr (inl d))) (fun d=>some (inl (d.1,d.2.1,d.2.2.2))) c) a else (if decide (x.1.k_=21)=true then some (x.1.k_,decide (x.1.k_=21),x.2.1,x.2.2,kg x.1,qg.mk (lit []) 0 0,qg.mk (lit []) 1 0) else some (x.1.k_,decide (x.1.k_=22),x.2.1,x.2.2,kg x.1,qg.mk (lit []) 0 0,qg.mk (lit []) 1 0)).bind fun b=>(if b.2.1=true then ((zb b.2.2.2.2.1.K_ 0).bind fun c=>(zb b.2.2.2.2.1.K_ 1).bind fun d=>(A (c.T_,b.2.2.1,b.2.2.2.1)).bind fun e=>elim (fun i=>some (inl i)) (fun i=>(A (d.T_,i.2)).bind fun j=>elim (fun l=>some (inl l)) (fun l=>some (inr (l.2.1,l.2.2,b.2.2.2.2.2.1,b.2.2.2.2.2.2,i.1,l.1))) j) e).bind fun c=>elim (fun d=>some (inl d)) (fun d=>(if decide (d.2.2.2.2.1.M_=1)=true then (B (decide (d.2.2.2.2.2.M_=1),40,d.1,d.2.1)).bind fun e=>elim (fun i=>some (inl i)) (fun i=>some (inr (i.1,i.2,d.2.2.1,d.2.2.2.1))) e else (B (false,40,d.1,d.2.1)).bind fun i=>elim (fun j=>some (inl j)) (fun j=>some (inr (j.1,j.2,d.2.2.1,d.2.2.2.1))) i).bind fun e=>elim (fun i=>some (inl i)) (fun i=>some (inr (inl (i.1,i.2.1,i.2.2.2)))) e) c else (if decide (b.1=26)=true then some (b.1,decide (b.1=26),b.2.2.1,b.2.2.2.1,kg b.2.2.2.2.1,b.2.2.2.2.2) else some (b.1,decide (b.1=27),b.2.2.1,b.2.2.2.1,kg b.2.2.2.2.1,b.2.2.2.2.2)).bind fun d=>(if d.2.1=true then (A (d.2.2.2.2.1.T_,d.2.2.1,d.2.2.2.1)).bind fun e=>elim (fun i=>some (inl i)) (fun i=>(B (decide (i.1.M_=2),40,i.2)).bind fun j=>elim (fun l=>some (inl l)) (fun l=>(if decide (d.2.2.2.2.1.k_=27)=true then some (l.1,l.2,d.2.2.2.2.2.1,qg.mk i.1.n_ 4 i.1.t_) else some (l.1,l.2,d.2.2.2.2.2.1,qg.mk i.1.n_ 3 i.1.t_)).bind fun m=>some (inr (inl (m.1,m.2.1,m.2.2.2)))) j) e else (if decide (d.1=28)=true then (C (kg d.2.2.2.2.1,d.2.2.1,d.2.2.2.1)).bind fun i=>elim (fun j=>some (inl j)) (fun j=>(B (decide (j.1.M_≠0),35,j.2)).bind fun l=>elim (fun m=>some (inl m)) (fun m=>some (inr (inl (m.1,m.2,j.1)))) l) i else some (inr (inr (d.2.2.1,d.2.2.2.1,d.2.2.2.2.2)))).bind fun i=>elim (fun j=>some (inl j)) (fun j=>elim (fun l=>some (inr (inl l))) (fun l=>some (inr (inr l))) j) i).bind fun e=>elim (fun i=>some (inl i)) (fun i=>elim (fun j=>some (inr (inl j))) (fun j=>some (inr (inr j))) i) e).bind fun c=>elim (fun d=>some (inr (inl d))) (fun d=>elim (fun e=>some (inl e)) (fun e=>some (inr (inr e))) d) c).bind fun a=>elim (fun b=>some (inl (b.2.2,b.1,b.2.1))) (fun b=>elim (fun c=>some (inr c)) (fun c=>(B (false,50,c.1,c.2.1)).bind fun d=>elim (fun e=>some (inr e)) (fun e=>some (inl (c.2.2.2,e))) d) b) a
def q20:zdE->Uc zob:=q93 q42 q13 q1t
theorem qi5:@Eq ((zdE)->Uc zob) znk.F q20:=by delta q20;rw [<-qen,<-q2r,<-qf7];kernel_rfl
def q9y (A:ziH) (B:Wy) (x:zow):Uc zO:=(zb x.2.2.2 x.2.2.1.2.2.2).bind fun a=>(zb x.2.2.2 x.2.2.1.2.2.2).bind fun b=>(A (qc.mk a.n_ a.P_ b.V_,x.1)).bind fun c=>if decide (0<=c)=true then (zb x.2.2.2 x.2.2.1.2.2.2).bind fun d=>(zb x.2.2.2 x.2.2.1.2.2.2).bind fun e=>(zb e.V_ c).bind fun i=>(zb x.2.2.2 x.2.2.1.2.2.2).bind fun j=>(zb j.V_ c).bind fun l=>(B (decide (l.n_=x.1) && (decide (l.M_=x.2.1.M_) && (decide (l.t_=x.2.1.t_) && true)),40,x.2.2)).bind fun m=>elim (fun n=>some (inl n)) (fun n=>some (inr n)) m else (zb x.2.2.2 x.2.2.1.2.2.2).bind fun n=>(zb x.2.2.2 x.2.2.1.2.2.2).bind fun o=>(zp 32 o.V_ [qg.mk x.1 x.2.1.M_ x.2.1.t_]).bind fun p=>(zb x.2.2.2 x.2.2.1.2.2.2).bind fun r=>bif decide (x.2.2.1.2.2.2=x.2.2.1.2.2.2) then some (inr (x.2.2.1,Sl.set x.2.2.2 x.2.2.1.2.2.2 (qc.mk r.n_ r.P_ p))) else none
def q2w:zow->Uc zO:=q9y q48 q13
theorem qin:@Eq ((zow)->Uc zO) znl.F q2w:=by delta q2w;rw [<-qf6,<-q2r];kernel_rfl
def qa7 (x:qc×q8):GG:=some (decide (x.1.n_=x.2.T_))
def q4c:qc×q8->GG:=qa7
theorem qgc:@Eq ((qc×q8)->Uc Bool) znm.F q4c:=by kernel_rfl
def q6n (A:qc×q8->GG):zo7->Uc (Step zo7 zuO):=fun a=>if decide (a.2.1 < a.1)=true then (zb a.2.2.1 a.2.1).bind fun b=>(zb a.2.2.1 a.2.1).bind fun c=>(zb a.2.2.1 a.2.1).bind fun d=>(A (qc.mk c.n_ c.P_ d.V_,kg a.2.2.2)).bind fun e=>if e=true then some (Step.done (inl (a.2.1,a.2.2.1,kg a.2.2.2))) else some (Step.next (a.1,Ud (a.2.1+1),a.2.2.1,kg a.2.2.2)) else some (Step.done (inr (a.2.2.1,kg a.2.2.2)))
def qat (A:qc×q8->GG) (x:GO×q8):Uc zga:=(lpO (q6n A) (Sl.len x.1,0,x.1,kg x.2)).bind fun a=>elim (fun b=>some (b.1,b.2.1,kg b.2.2)) (fun b=>some (-1,b.1,kg b.2)) a
def q3k:GO×q8->Uc zga:=qat q4c
theorem qjb:@Eq ((Sl qc×q8)->Uc zga) znn.F q3k:=by delta q3k;rw [<-qgc];kernel_rfl
def q5r (A:Wy) (B:zeU):zoh->Uc (Step zoh zO):=fun a=>if decide (a.2.2.2.1 < a.2.2.1)=true then (zb a.2.1 a.2.2.2.1).bind fun b=>(zb a.2.2.2.2.2 a.1.1).bind fun c=>(Zg c.V_ a.1.2.1 a.1.2.2).bind fun d=>(zb d a.2.2.2.1).bind fun e=>(zb a.2.2.2.2.2 a.1.1).bind fun i=>(zb i.V_ (a.1.2.1+a.2.2.2.1)).bind fun j=>(B (kg b,j,a.2.2.2.2)).bind fun l=>elim (fun m=>some (Step.done (inl m))) (fun m=>some (Step.next (a.1,a.2.1,a.2.2.1,Ud (a.2.2.2.1+1),m))) l else some (Step.done (inr a.2.2.2.2))
def q7e (A:Wy) (B:zeU) (x:zom):Uc zO:=(zb x.2.2.2 x.2.1.1).bind fun a=>(Zg a.V_ x.2.1.2.1 x.2.1.2.2).bind fun b=>(A (decide (Sl.len x.1=x.2.1.2.2 - x.2.1.2.1),51,x.2.2)).bind fun c=>elim (fun d=>some (inl d)) (fun d=>(lpO (q5r A B) (x.2.1,x.1,Sl.len x.1,0,d)).bind fun e=>elim (fun i=>some (inl i)) (fun i=>some (inr i)) e) c
def q1s:zom->Uc zO:=q7e q13 q1e
theorem qgr:@Eq ((zom)->Uc zO) zno.F q1s:=by delta q1s;rw [<-q2r,<-qcw];kernel_rfl
def q4r (A:zs5) (B:zs3) (C:zn0) (D:zoK) (E:Wy) (G:tA8) (H:zeU) (I:zg2):zof->Uc (Step zof zc6):=fun a=>if decide (a.2.2.2.2.2.1 < a.2.2.2.2.1)=true then (zb a.2.2.2.1 a.2.2.2.2.2.1).bind fun b=>(I (b.K_,a.2.2.2.2.2.2.1,a.2.2.2.2.2.2.2.1)).bind fun c=>elim (fun d=>some (Step.done (inl d))) (fun d=>some (Step.next (a.1,a.2.1,a.2.2.1,a.2.2.2.1,a.2.2.2.2.1,Ud (a.2.2.2.2.2.1+1),d.1,d.2,a.2.2.2.2.2.2.2.2))) c else some (Step.done (inr (a.1,a.2.1,a.2.2.1,a.2.2.2.2.2.2)))
def q1x (A:zs5) (B:zs3) (C:zn0) (D:zoK) (E:Wy) (G:tA8) (H:zeU) (I:zg2):wY->Uc (Step wY zO):=fun a=>if decide (a.2.2.1 < a.2.1)=true then (zb a.1 a.2.2.1).bind fun b=>(if decide (b.k_=10)=true then ((zb b.K_ 0).bind fun c=>(A (kg c,(a.2.2.2.1.1,a.2.2.2.1.2.1,b.a_,a.2.2.2.1.2.2.2),a.2.2.2.2.1)).bind fun d=>elim (fun e=>(B (b.T_,e)).bind fun i=>elim (fun j=>some (inl j)) (fun j=>some (inr (a.1,a.2.1,a.2.2.1,j.1,j.2,a.2.2.2.2.2))) i) (fun e=>some (inl e)) d).bind fun c=>elim (fun d=>some (inl d)) (fun d=>some (inr d)) c else (if decide (b.k_=20)=true then (zb b.K_ 0).bind fun d=>(C (kg d,(a.2.2.2.1.1,a.2.2.2.1.2.1,b.a_,a.2.2.2.1.2.2.2),a.2.2.2.2.1)).bind fun e=>elim (fun i=>some (inl i)) (fun i=>some (inr (a.1,a.2.1,a.2.2.1,i.2.1,i.2.2,a.2.2.2.2.2))) e else (if decide (b.k_=19)=true then (D (a.2.2.2.2.1,kg b)).bind fun i=>(E (decide (0<=i.1),31,(a.2.2.2.1.1,a.2.2.2.1.2.1,b.a_,a.2.2.2.1.2.2.2),i.2.1)).bind fun j=>elim (fun l=>some (inl l)) (fun l=>(zb l.2 i.1).bind fun m=>(zb l.2 i.1).bind fun n=>(zb l.2 i.1).bind fun o=>(zb l.2 i.1).bind fun p=>(zb l.2 i.1).bind fun r=>(Zg r.V_ 0 p.P_).bind fun s=>(G (i.2.2.K_,(i.1,0,p.P_),l)).bind fun t=>elim (fun u=>some (inl u)) (fun u=>some (inr (a.1,a.2.1,a.2.2.1,u.1,u.2,a.2.2.2.2.2))) t) j else (if decide (b.k_=15)=true then some (a.1,a.2.1,a.2.2.1,b.k_,decide (b.k_=15),(a.2.2.2.1.1,a.2.2.2.1.2.1,b.a_,a.2.2.2.1.2.2.2),a.2.2.2.2.1,a.2.2.2.2.2,kg b) else some (a.1,a.2.1,a.2.2.1,b.k_,decide (b.k_=16),(a.2.2.2.1.1,a.2.2.2.1.2.1,b.a_,a.2.2.2.1.2.2.2),a.2.2.2.2.1,a.2.2.2.2.2,kg b)).bind fun l=>(if l.2.2.2.2.1=true then (zb l.2.2.2.2.2.2.2.2.K_ 0).bind fun m=>(H (kg m,l.2.2.2.2.2.2.2.1,l.2.2.2.2.2.1,l.2.2.2.2.2.2.1)).bind fun n=>elim (fun o=>some (inl o)) (fun o=>(zb l.2.2.2.2.2.2.2.2.K_ 1).bind fun p=>(H (kg p,l.2.2.2.2.2.2.2.1,o)).bind fun r=>elim (fun s=>some (inl s)) (fun s=>(Zg l.2.2.2.2.2.2.2.2.K_ 2 l.2.2.2.2.2.2.2.2.K_.len).bind fun t=>(lpO (q4r A B C D E G H I) (l.1,l.2.1,l.2.2.1,t,t.len,0,s.1,s.2,l.2.2.2.2.2.2.2.1)).bind fun u=>elim (fun v=>some (inl v)) (fun v=>some (inr v)) u) r) n else (if decide (l.2.2.2.1=17)=true then (E (decide (l.2.2.2.2.2.2.2.2.K_.len=0),35,l.2.2.2.2.2.1,l.2.2.2.2.2.2.1)).bind fun o=>elim (fun p=>some (inl p)) (fun p=>some (inr (l.1,l.2.1,l.2.2.1,p.1,p.2,l.2.2.2.2.2.2.2.1))) o else (if decide (l.2.2.2.1=18)=true then some (inl (l.1,l.2.1,l.2.2.1,l.2.2.2.2.2.1,l.2.2.2.2.2.2.1,l.2.2.2.2.2.2.2.1)) else (E (false,50,l.2.2.2.2.2.1,l.2.2.2.2.2.2.1)).bind fun p=>elim (fun r=>some (inr r)) (fun r=>some (inl (l.1,l.2.1,l.2.2.1,r.1,r.2,l.2.2.2.2.2.2.2.1))) p).bind fun p=>elim (fun r=>some (inr r)) (fun r=>some (inl r)) p).bind fun o=>elim (fun p=>some (inl p)) (fun p=>some (inr p)) o).bind fun m=>elim (fun n=>some (inl n)) (fun n=>some (inr n)) m).bind fun i=>elim (fun j=>some (inl j)) (fun j=>some (inr j)) i).bind fun d=>elim (fun e=>some (inl e)) (fun e=>some (inr e)) d).bind fun c=>elim (fun d=>some (Step.done (inl d))) (fun d=>some (Step.next (d.1,d.2.1,Ud (d.2.2.1+1),d.2.2.2))) c else some (Step.done (inr (a.2.2.2.1,a.2.2.2.2.1)))
def q68 (A:zs5) (B:zs3) (C:zn0) (D:zoK) (E:Wy) (G:tA8) (H:zeU) (I:zg2) (x:zuv):Uc zO:=(lpO (q1x A B C D E G H I) (x.1,Sl.len x.1,0,x.2.1,x.2.2,qg.mk (lit []) 1 0)).bind fun a=>elim (fun b=>some (inl b)) (fun b=>some (inr b)) a
def q4u (h:zbQ):zbQ:=q68 q20 q2w q1t q3k q13 q1s q1e h
theorem qgs (h:zbQ):@Eq zbQ (zhX h) (q4u h):=by delta q4u;rw [<-qi5,<-qin,<-qf7,<-qjb,<-q2r,<-qgr,<-qcw];kernel_rfl
def q2k:Nat->zuv->Uc zO
  |0=>fun _=>none
  |k+1=>q4u (q2k k)
theorem qdt:∀ k,@Eq zbQ (zfx k) (q2k k)
  |0=>rfl
  |k+1=>(qgs (zfx k)).trans (congrArg q4u (qdt k))
def q3h:zbQ:=q2k 100000
theorem qhg:@Eq zbQ zwW q3h:=qdt 100000
def qe0 (x:q8):Uc q8:=if decide (x.K_.len=0)=true then some (q8.mk 0 (lit []) 0 0 (Sl.mk [] false)) else (zb x.K_ 0).bind fun a=>some (kg a)
def qa6:zi6:=qe0
theorem qk2:@Eq zi6 zj5.F qa6:=by kernel_rfl
def qg4 (x:q8):Uc qw:=some (qw.mk x.T_ x.N_)
def qa4:zb3:=qg4
theorem qgt:@Eq zb3 zgJ.F qa4:=by kernel_rfl
def qfn (A:zb3) (x:q8×Int):Uc qw:=if decide (x.1.K_.len<=x.2)=true then some (qw.mk (lit []) 0) else (zb x.1.K_ x.2).bind fun a=>(A (kg a)).bind fun b=>some b
def q3c:zpb:=qfn qa4
theorem qi6:@Eq ((q8×Int)->Uc qw) zeG.F q3c:=by delta q3c;rw [<-qgt];kernel_rfl
def qd1 (A:zb3):zo0->Uc (Step zo0 (Sl qw)):=fun a=>if decide (a.2.2.1 < a.2.1)=true then (zb a.1 a.2.2.1).bind fun b=>(A (kg b)).bind fun c=>(zp 24 a.2.2.2 [c]).bind fun d=>some (Step.next (a.1,a.2.1,Ud (a.2.2.1+1),d)) else some (Step.done a.2.2.2)
def qg5 (A:zb3) (x:q8):Uc (Sl qw):=(lpO (qd1 A) (x.K_,x.K_.len,0,Sl.mk [] false)).bind fun a=>some a
def qb5:ziS:=qg5 qa4
theorem qjh:@Eq ziS zj6.F qb5:=by delta qb5;rw [<-qgt];kernel_rfl
def qbf (x:qi×GS):Uc vq:=(zp 136 x.2 [x.1]).bind fun a=>some (Ud (a.len - 1),a)
def q2h:qi×GS->Uc vq:=qbf
theorem qci:@Eq ((qi×Sl qi)->Uc vq) zbx.F q2h:=by kernel_rfl
def qbg (A:zpb) (B:ziS) (C:zb3) (D:zf4) (x:zi0):Uc GS:=(if decide (x.2.1.k_=21)=true then some (x.2.1.k_,decide (x.2.1.k_=21),x.2.2,kg x.2.1,0,x.1.a_,x.1.T_,lit [],lit [],0,lit [],0,0,false) else some (x.2.1.k_,decide (x.2.1.k_=22),x.2.2,kg x.2.1,0,x.1.a_,x.1.T_,lit [],lit [],0,lit [],0,0,false)).bind fun a=>(if a.2.1=true then (A (kg a.2.2.2.1,0)).bind fun b=>(A (kg a.2.2.2.1,1)).bind fun c=>some (a.2.2.1,(Ud (1+Ud (a.2.2.2.1.k_ - 21)),a.2.2.2.2.2.1,a.2.2.2.2.2.2.1,a.2.2.2.2.2.2.2.1,b.n_,b.N_,c.n_,c.N_,a.2.2.2.2.2.2.2.2.2.2.2.2),Sl.mk [] false) else (if decide (a.1=23)=true then some (a.2.2.1,(3,a.2.2.2.2.2.1,a.2.2.2.2.2.2.1,a.2.2.2.2.2.2.2.1,lit [],a.2.2.2.1.N_,a.2.2.2.2.2.2.2.2.2.2),Sl.mk [] false) else (if decide (a.1=24)=true then some (a.2.2.1,(4,a.2.2.2.2.2.1,a.2.2.2.2.2.2.1,a.2.2.2.2.2.2.2.1,a.2.2.2.1.T_,0,a.2.2.2.2.2.2.2.2.2.2),Sl.mk [] false) else (if decide (a.1=25)=true then (A (kg a.2.2.2.1,0)).bind fun d=>some (a.2.2.1,(5,a.2.2.2.2.2.1,a.2.2.2.2.2.2.1,a.2.2.2.1.T_,d.n_,d.N_,a.2.2.2.2.2.2.2.2.2.2),Sl.mk [] false) else (if decide (a.1=28)=true then (B (kg a.2.2.2.1)).bind fun e=>some (a.2.2.1,(12,a.2.2.2.2.2.1,a.2.2.2.2.2.2.1,a.2.2.2.1.T_,a.2.2.2.2.2.2.2.2),e) else (if decide (a.1=26)=true then some (decide (a.1=26),a.2.2.1,kg a.2.2.2.1,a.2.2.2.2) else some (decide (a.1=27),a.2.2.1,kg a.2.2.2.1,a.2.2.2.2)).bind fun i=>(if i.1=true then some (i.2.1,i.2.2.2.1,i.2.2.2.2.1,i.2.2.2.2.2.1,i.2.2.2.2.2.2.1,i.2.2.1.T_,0,i.2.2.2.2.2.2.2.2.2) else (C (kg i.2.2.1)).bind fun j=>some (i.2.1,i.2.2.2.1,i.2.2.2.2.1,i.2.2.2.2.2.1,i.2.2.2.2.2.2.1,j.n_,j.N_,i.2.2.2.2.2.2.2.2.2)).bind fun j=>some (j.1,j.2,Sl.mk [] false)).bind fun e=>some e).bind fun d=>some d).bind fun d=>some d).bind fun d=>some d).bind fun b=>(D (qi.mk b.2.1.1 b.2.1.2.1 b.2.1.2.2.1 b.2.1.2.2.2.1 (qw.mk b.2.1.2.2.2.2.1 b.2.1.2.2.2.2.2.1) (qw.mk b.2.1.2.2.2.2.2.2.1 b.2.1.2.2.2.2.2.2.2.1) b.2.2 b.2.1.2.2.2.2.2.2.2.2.1 b.2.1.2.2.2.2.2.2.2.2.2,b.1)).bind fun c=>some c.2
def q6d:zi0->Uc GS:=qbg q3c qb5 qa4 q2h
theorem qjk:@Eq ((zi0)->Uc (Sl qi)) znr.F q6d:=by delta q6d;rw [<-qi6,<-qjh,<-qgt,<-qci];kernel_rfl
def q4h (A:zpb) (B:zf4) (C:zdO) (x:q8×GS):Uc GS:=if decide (x.1.K_.len < 3)=true then some x.2 else (A (kg x.1,0)).bind fun a=>(A (kg x.1,1)).bind fun b=>(B (qi.mk 10 x.1.a_ x.1.T_ (lit []) a b (Sl.mk [] false) 0 false,x.2)).bind fun c=>(zb x.1.K_ 2).bind fun d=>(C (kg d,c.2)).bind fun e=>(B (qi.mk 11 x.1.a_ (lit []) (lit []) (qw.mk (lit []) 0) (qw.mk (lit []) 0) (Sl.mk [] false) c.1 false,e)).bind fun i=>(zb i.2 c.1).bind fun j=>(zb i.2 c.1).bind fun l=>(if decide (x.1.k_=15)=true then some (i.1,decide (3 < x.1.K_.len),kg x.1,Sl.set i.2 c.1 (qi.mk l.O_ l.a_ l.X_ l.Y_ l.A_ l.B_ l.J_ (Sl.len i.2) l.h_)) else some (i.1,false,kg x.1,Sl.set i.2 c.1 (qi.mk l.O_ l.a_ l.X_ l.Y_ l.A_ l.B_ l.J_ (Sl.len i.2) l.h_))).bind fun m=>(if m.2.1=true then (zb m.2.2.1.K_ 3).bind fun n=>(C (kg n,m.2.2.2)).bind fun o=>(zb o m.1).bind fun p=>(zb o m.1).bind fun r=>some (o.set m.1 (qi.mk r.O_ r.a_ r.X_ r.Y_ r.A_ r.B_ r.J_ o.len r.h_)) else some m.2.2.2).bind fun n=>some n
def q2c (h:yH):yH:=q4h q3c q2h h
theorem qf8 (h:yH):@Eq yH (zhY h) (q2c h):=by delta q2c;rw [<-qi6,<-qci];kernel_rfl
def q5b (A:zi6) (B:zi0->Uc GS) (C:zdO) (D:zpb) (E:ziS) (G:zf4) (x:q8×GS):Uc GS:=(if decide (x.1.k_=10)=true then (A (kg x.1)).bind fun a=>(B (kg x.1,kg a,x.2)).bind fun b=>some (inl b) else (if decide (x.1.k_=15)=true then some (x.1.k_,decide (x.1.k_=15),x.2,kg x.1,0,x.1.a_,lit [],x.1.T_,lit [],0,lit [],0,0,false) else some (x.1.k_,decide (x.1.k_=16),x.2,kg x.1,0,x.1.a_,lit [],x.1.T_,lit [],0,lit [],0,0,false)).bind fun (c:zyl)=>if c.2.1=true then (C (kg c.2.2.2.1,c.2.2.1)).bind fun d=>some (inl d) else (if decide (c.1=11)=true then (D (kg c.2.2.2.1,0)).bind fun e=>(D (kg c.2.2.2.1,1)).bind fun i=>some (c.2.2.1,(6,c.2.2.2.2.2.1,c.2.2.2.2.2.2.1,c.2.2.2.2.2.2.2.1,e.n_,e.N_,i.n_,i.N_,c.2.2.2.2.2.2.2.2.2.2.2.2),Sl.mk [] false) else (if decide (c.1=12)=true then some (c.2.2.1,(7,c.2.2.2.2.2),Sl.mk [] false) else (if decide (c.1=13)=true then some (c.2.2.1,(8,c.2.2.2.2.2.1,c.2.2.2.2.2.2.1,c.2.2.2.2.2.2.2.1,lit [],c.2.2.2.1.N_,c.2.2.2.2.2.2.2.2.2.2),Sl.mk [] false) else (if decide (c.1=14)=true then some (c.2.2.1,(9,c.2.2.2.2.2.1,c.2.2.2.2.2.2.1,c.2.2.2.2.2.2.2.1,lit [],c.2.2.2.1.N_,c.2.2.2.2.2.2.2.2.2.2),Sl.mk [] false) else (if decide (c.1=20)=true then (A (kg c.2.2.2.1)).bind fun j=>(A (kg c.2.2.2.1)).bind fun l=>(E (kg l)).bind fun m=>some (c.2.2.1,(12,c.2.2.2.2.2.1,c.2.2.2.2.2.2.1,j.T_,c.2.2.2.2.2.2.2.2),m) else (if decide (c.1=19)=true then (E (kg c.2.2.2.1)).bind fun n=>some (c.2.2.1,(13,c.2.2.2.2.2),n) else (if decide (c.1=17)=true then (D (kg c.2.2.2.1,0)).bind fun o=>some (c.2.2.1,14,c.2.2.2.2.2.1,c.2.2.2.2.2.2.1,lit [],o.n_,o.N_,c.2.2.2.2.2.2.2.2.2.2.1,c.2.2.2.2.2.2.2.2.2.2.2.1,c.2.2.2.2.2.2.2.2.2.2.2.2.1,decide (0 < c.2.2.2.1.K_.len)) else some (c.2.2.1,15,c.2.2.2.2.2.1,c.2.2.2.2.2.2.1,lit [],c.2.2.2.2.2.2.2.2)).bind fun (o:zys)=>some (o.1,o.2,Sl.mk [] false)).bind fun (n:W5)=>some n).bind fun (j:W5)=>some j).bind fun (j:W5)=>some j).bind fun (j:W5)=>some j).bind fun (j:W5)=>some j).bind fun (e:W5)=>some (inr e)).bind fun (a:Sl qi⊕Sl qi×(Int×Int×Ua×Ua×Ua×Int×Ua×Int×Int×Bool)×Sl qw)=>elim (fun b=>some b) (fun b=>(G (qi.mk b.2.1.1 b.2.1.2.1 b.2.1.2.2.1 b.2.1.2.2.2.1 (qw.mk b.2.1.2.2.2.2.1 b.2.1.2.2.2.2.2.1) (qw.mk b.2.1.2.2.2.2.2.2.1 b.2.1.2.2.2.2.2.2.2.1) b.2.2 b.2.1.2.2.2.2.2.2.2.2.1 b.2.1.2.2.2.2.2.2.2.2.2,b.1)).bind fun c=>some c.2) a
def q1v (h:yH):yH:=q5b qa6 q6d (q2c h) q3c qb5 q2h
theorem qfp (h:yH):@Eq yH (zhZ h) (q1v h):=by delta q1v;rw [<-qk2,<-qjk,<-qf8 h,<-qi6,<-qjh,<-qci];kernel_rfl
def q7m (A:zdO):zo1->Uc (Step zo1 GS):=fun a=>if decide (a.2.2.1 < a.2.1)=true then (zb a.1 a.2.2.1).bind fun b=>(A (kg b,a.2.2.2)).bind fun c=>some (Step.next (a.1,a.2.1,Ud (a.2.2.1+1),c)) else some (Step.done a.2.2.2)
def q7o (A:zdO) (x:q8×GS):Uc GS:=(lpO (q7m A) (x.1.K_,x.1.K_.len,0,x.2)).bind fun a=>some a
def q61 (h:yH):yH:=q7o (q1v h)
theorem qio (h:yH):@Eq yH (zh0 h) (q61 h):=by delta q61;rw [<-qfp h];kernel_rfl
def q2f:Nat->(q8×Sl qi)->Uc (Sl qi)
  |0=>fun _=>none
  |k+1=>q61 (q2f k)
theorem qae:∀ k,@Eq yH (zfz k) (q2f k)
  |0=>rfl
  |k+1=>(qio (zfz k)).trans (congrArg q61 (qae k))
def q8k:yH:=q2f 100000
theorem qj2:@Eq yH zw2 q8k:=qae 100000
def qcl (A:zdO) (B:zf4):zfY->Uc (Step zfY zuu):=fun a=>if decide (a.2.2.1 < a.2.1)=true then (zb a.1 a.2.2.1).bind fun b=>(if decide (b.k_=7)=true then (zp 16 a.2.2.2.2.2.1 [b.T_]).bind fun c=>some (a.1,a.2.1,a.2.2.1,a.2.2.2.1,a.2.2.2.2.1,c,a.2.2.2.2.2.2) else (if decide (b.k_=9)=true then (A (kg b,a.2.2.2.2.2.2)).bind fun d=>(B (qi.mk 14 b.a_ (lit []) (lit []) (qw.mk (lit []) 0) (qw.mk (lit []) 0) (Sl.mk [] false) 0 false,d)).bind fun e=>some (a.1,a.2.1,a.2.2.1,a.2.2.2.1,a.2.2.2.2.1,a.2.2.2.2.2.1,e.2) else some a).bind fun d=>some d).bind fun c=>some (Step.next (c.1,c.2.1,Ud (c.2.2.1+1),c.2.2.2)) else some (Step.done a.2.2.2)
def qe1 (A:zdO) (B:zf4) (x:q8):Uc q1d:=if decide (x.k_≠6)=true then some (q1d.mk (lit []) (Sl.mk [] false) (Sl.mk [] false)) else (lpO (qcl A B) (x.K_,x.K_.len,0,lit [],x.T_,Sl.mk [] false,Sl.mk [] false)).bind fun a=>some (q1d.mk a.2.1 a.2.2.1 a.2.2.2)
def q5c:zb2:=qe1 q8k q2h
theorem qj3:@Eq zb2 zns.F q5c:=by delta q5c;rw [<-qj2,<-qci];kernel_rfl
def qa1 (A:Wy) (x:zor):Uc zO:=(A (x.2.1,x.2.2.1,(x.2.2.2.1.1,x.2.2.2.1.2.1,x.1.a_,x.2.2.2.1.2.2.2),x.2.2.2.2)).bind fun a=>elim (fun b=>some (inl b)) (fun b=>some (inr b)) a
def q3b:zor->Uc zO:=qa1 q13
theorem qg9:@Eq ((zor)->Uc zO) zr4.F q3b:=by delta q3b;rw [<-q2r];kernel_rfl
def qce (x:ziC):Uc Ye:=some (x.1.1,x.1.2,x.2.2.2)
def q60:ziC->Uc Ye:=qce
theorem qiq:@Eq ((ziC)->Uc Ye) zr7 q60:=by kernel_rfl
def qba (x:Ye):Uc Ye:=some x
def q58:Ye->Uc Ye:=qba
theorem qhh:@Eq ((Ye)->Uc Ye) zsa q58:=by kernel_rfl
def q6o (A:zkU) (B:zs4) (C:zon) (D:zg2) (E:zb2) (G:zs2) (H:zoC):VU->Uc (Step VU zic):=fun a=>if decide (a.2.2.1 < a.2.1)=true then ((zb a.1 a.2.2.1).bind fun b=>(A (kg b,decide (b.k_=6),50,a.2.2.2.2.2.2)).bind fun c=>elim (fun d=>some (inl (d.1,kg a.2.2.2.1,a.2.2.2.2.1,a.2.2.2.2.2.1))) (fun d=>(yV ((B (kg b,d)).bind fun e=>elim (fun i=>some (inl (i.1,kg a.2.2.2.1,a.2.2.2.2.1,a.2.2.2.2.2.1))) (fun i=>(zp 48 i.2.2.1 [qc.mk i.1.1 i.1.2 i.2.2.2]).bind fun j=>some (inr (a.1,a.2.1,a.2.2.1,kg a.2.2.2.1,a.2.2.2.2.1,a.2.2.2.2.2.1,i.2.1,j))) e) ((B (kg b,d)).bind fun e=>elim (fun i=>some (inl (i.1,kg a.2.2.2.1,a.2.2.2.2.1,a.2.2.2.2.2.1))) (fun i=>yV ((zp 48 i.2.2.1 [qc.mk i.1.1 i.1.2 i.2.2.2]).bind fun j=>some (inr (a.1,a.2.1,a.2.2.1,kg a.2.2.2.1,a.2.2.2.2.1,a.2.2.2.2.2.1,i.2.1,j))) ((zp 48 i.2.2.1 [qc.mk i.1.1 i.1.2 i.2.2.2]).bind fun j=>some (inr (a.1,a.2.1,a.2.2.1,kg a.2.2.2.1,a.2.2.2.2.1,a.2.2.2.2.2.1,i.2.1,j)))) e)).bind fun e=>elim (fun i=>some (inl (i.1,kg i.2.1,i.2.2))) (fun i=>some (inr (i.1,i.2.1,i.2.2.1,kg i.2.2.2.1,i.2.2.2.2))) e) c).bind fun b=>elim (fun c=>some (Step.done (inl (c.1,kg c.2.1,c.2.2)))) (fun c=>some (Step.next (c.1,c.2.1,Ud (c.2.2.1+1),kg c.2.2.2.1,c.2.2.2.2))) b else some (Step.done (inr (kg a.2.2.2.1,a.2.2.2.2)))
def q6p (A:zkU) (B:zs4) (C:zon) (D:zg2) (E:zb2) (G:zs2) (H:zoC):VU->Uc (Step VU zic):=fun a=>if decide (a.2.2.1 < a.2.1)=true then ((zb a.1 a.2.2.1).bind fun b=>(zb a.2.2.2.2.2.2.2 a.2.2.1).bind fun c=>(zb b.K_ (Ud (b.K_.len - 1))).bind fun d=>(D (d.K_,(a.2.2.2.2.2.2.1.1,a.2.2.2.2.2.2.1.2.1,a.2.2.2.2.2.2.1.2.2,a.2.2.1),a.2.2.2.2.2.2.2)).bind fun e=>elim (fun i=>some (inl (i.1,kg a.2.2.2.1,a.2.2.2.2.1,a.2.2.2.2.2.1))) (fun i=>((zb i.2 i.1.2.2.2).bind fun j=>(zb i.2 i.1.2.2.2).bind fun l=>if decide (l.V_.len<=64)=true then (E (kg b)).bind fun m=>(G (kg b,decide (m.L_.len<=512),22,i)).bind fun n=>elim (fun o=>some (inl (o.1,kg a.2.2.2.1,a.2.2.2.2.1,a.2.2.2.2.2.1))) (fun o=>some (inr (a.1,a.2.1,a.2.2.1,kg a.2.2.2.1,a.2.2.2.2.1,a.2.2.2.2.2.1,o))) n else (G (kg b,false,22,i)).bind fun o=>elim (fun p=>some (inl (p.1,kg a.2.2.2.1,a.2.2.2.2.1,a.2.2.2.2.2.1))) (fun p=>some (inr (a.1,a.2.1,a.2.2.1,kg a.2.2.2.1,a.2.2.2.2.1,a.2.2.2.2.2.1,p))) o).bind fun j=>elim (fun l=>some (inl (l.1,kg l.2.1,l.2.2))) (fun l=>some (inr (l.1,l.2.1,l.2.2.1,kg l.2.2.2.1,l.2.2.2.2))) j) e).bind fun b=>elim (fun c=>some (Step.done (inl (c.1,kg c.2.1,c.2.2)))) (fun c=>some (Step.next (c.1,c.2.1,Ud (c.2.2.1+1),kg c.2.2.2.1,c.2.2.2.2.1,c.2.2.2.2.2.1,(c.2.2.2.2.2.2.1.1,c.2.2.2.2.2.2.1.2.1,c.2.2.2.2.2.2.1.2.2.1),c.2.2.2.2.2.2.2))) b else some (Step.done (inr (kg a.2.2.2.1,a.2.2.2.2)))
def qd9 (A:zkU) (B:zs4) (C:zon) (D:zg2) (E:zb2) (G:zs2) (H:zoC) (x:zpe):Uc Ye:=(lpO (q6o A B C D E G H) (x.1.K_,x.1.K_.len,0,kg x.1,0,0,(x.2.1,x.2.2,0),Sl.mk [] false)).bind fun a=>elim (fun b=>(C (b.1,b.2.2.1,b.2.2.2,Sl.mk [] false)).bind fun c=>some (c.1,c.2.1,Sl.mk [] false)) (fun b=>(lpO (q6p A B C D E G H) (b.1.K_,b.1.K_.len,0,kg b.1,b.2)).bind fun c=>elim (fun d=>(C (d.1,d.2.2.1,d.2.2.2,Sl.mk [] false)).bind fun e=>some (e.1,e.2.1,Sl.mk [] false)) (fun d=>(H (0,0,d.2.2.2.2)).bind fun e=>some e) c) a
def q77:zpe->Uc Ye:=qd9 q1w q31 q60 q3h q5c q3b q58
theorem qjw:@Eq ((zpe)->Uc Ye) zxa q77:=by delta q77;rw [<-qds,<-qi3,<-qiq,<-qhg,<-qj3,<-qg9,<-qhh];kernel_rfl
def q99 (x:zij):Uc Zz:=(if decide (x.2.2.1.2.2.2=0)=true then some ((x.2.2.1.1,x.2.2.1.2.1,x.1,x.2.1),x.2.2.2) else some x.2.2).bind fun a=>some a
def q16:zij->Uc Zz:=q99
theorem qcj:@Eq ((zij)->Uc Zz) zeH.F q16:=by kernel_rfl
def q59:zoI->Uc (Step zoI zub):=fun a=>if decide (a.2.1 < Sl.len a.2.2.2)=true then (zb a.2.2.2 a.2.1).bind fun b=>(zb a.2.2.2 a.2.1).bind fun c=>if decide (c.n_=a.1)=true then some (Step.done (inl a.2)) else some (Step.next (a.1,Ud (a.2.1+1),a.2.2)) else some (Step.done (inr a.2.2))
def q9a (x:ziv):Uc zdJ:=(lpO q59 (x.1,0,x.2)).bind fun a=>elim (fun b=>some b) (fun b=>some (-1,b)) a
def q3q:ziv->Uc zdJ:=q9a
theorem qi7:@Eq ((ziv)->Uc zdJ) znt.F q3q:=by kernel_rfl
def q5a (A:zc7) (B:ztV) (C:vm):zth->Uc (Step zth zyr):=fun a=>if decide (a.2.1 < a.1)=true then (zb a.2.2.2.2.1.K_ a.2.1).bind fun b=>(zb b.K_ 0).bind fun c=>(B (b.T_,a.2.2.2.2.2.2)).bind fun d=>(if decide (0<=d.1)=true then (A (b.a_,30,a.2.2.1,a.2.2.2.1)).bind fun e=>some (a.1,a.2.1,e.1,e.2,kr a.2.2.2.2.1,a.2.2.2.2.2.1,d.2.1,kr b,kr c,d.2.2) else some (a.1,a.2.1,a.2.2.1,a.2.2.2.1,kr a.2.2.2.2.1,a.2.2.2.2.2.1,d.2.1,kr b,kr c,d.2.2)).bind fun e=>(if decide (e.2.2.2.2.2.2.2.2.1.T_=lit [38])=true then some (e.1,e.2.1,true,e.2.2.1,e.2.2.2.1,kr e.2.2.2.2.1,e.2.2.2.2.2.1,e.2.2.2.2.2.2.1,kr e.2.2.2.2.2.2.2.2.1,qf.mk e.2.2.2.2.2.2.2.1.T_ 1 0,e.2.2.2.2.2.2.2.2.2) else some (e.1,e.2.1,decide (e.2.2.2.2.2.2.2.2.1.T_=lit [38,109,117,116]),e.2.2.1,e.2.2.2.1,kr e.2.2.2.2.1,e.2.2.2.2.2.1,e.2.2.2.2.2.2.1,kr e.2.2.2.2.2.2.2.2.1,qf.mk e.2.2.2.2.2.2.2.1.T_ 1 0,e.2.2.2.2.2.2.2.2.2)).bind fun i=>(if i.2.2.1=true then (A (i.2.2.2.2.2.2.2.2.1.a_,34,i.2.2.2.1,i.2.2.2.2.1)).bind fun j=>some (i.1,i.2.1,j.1,j.2,kr i.2.2.2.2.2.1,i.2.2.2.2.2.2.1,i.2.2.2.2.2.2.2.1,kr i.2.2.2.2.2.2.2.2.1,i.2.2.2.2.2.2.2.2.2) else some (i.1,i.2.1,i.2.2.2.1,i.2.2.2.2.1,kr i.2.2.2.2.2.1,i.2.2.2.2.2.2.1,i.2.2.2.2.2.2.2.1,kr i.2.2.2.2.2.2.2.2.1,i.2.2.2.2.2.2.2.2.2)).bind fun j=>(if decide (j.2.2.2.2.2.2.2.1.T_=lit [111,119,110])=true then (zb j.2.2.2.2.2.2.2.1.K_ 0).bind fun l=>(C (j.2.2.1.2.1,l.T_)).bind fun m=>(if decide (m < 0)=true then (A (j.2.2.2.2.2.2.2.1.a_,31,j.2.2.1,j.2.2.2.1)).bind fun n=>some (j.1,j.2.1,n.1,n.2,kr j.2.2.2.2.1,j.2.2.2.2.2.1,j.2.2.2.2.2.2.1,qf.mk j.2.2.2.2.2.2.2.2.1.n_ 2 m,j.2.2.2.2.2.2.2.2.2) else some (j.1,j.2.1,j.2.2.1,j.2.2.2.1,kr j.2.2.2.2.1,j.2.2.2.2.2.1,j.2.2.2.2.2.2.1,qf.mk j.2.2.2.2.2.2.2.2.1.n_ 2 m,j.2.2.2.2.2.2.2.2.2)).bind fun n=>some (n.1,n.2.1,n.2.2.1,n.2.2.2.1,kr n.2.2.2.2.1,n.2.2.2.2.2) else some (j.1,j.2.1,j.2.2.1,j.2.2.2.1,kr j.2.2.2.2.1,j.2.2.2.2.2.1,j.2.2.2.2.2.2.1,j.2.2.2.2.2.2.2.2)).bind fun l=>(zp 32 l.2.2.2.2.2.2.2.2 [l.2.2.2.2.2.2.2.1]).bind fun m=>some (Step.next (l.1,Ud (l.2.1+1),l.2.2.1,l.2.2.2.1,kr l.2.2.2.2.1,l.2.2.2.2.2.1,l.2.2.2.2.2.2.1,m)) else some (Step.done (a.1,a.2.2.1,a.2.2.2.1,kr a.2.2.2.2.1,a.2.2.2.2.2))
def q9b (A:zc7) (B:ztV) (C:vm) (x:zf2):Uc zie:=if decide (8 < Ud (x.1.K_.len - 2))=true then (A (x.1.a_,22,x.2)).bind fun a=>some ((x.1.T_,Ud (x.1.K_.len - 2)),a.1,a.2,Sl.mk [] false) else (lpO (q5a A B C) (Ud (x.1.K_.len - 2),0,x.2.1,x.2.2,kr x.1,(lit [],0),(x.1.T_,Ud (x.1.K_.len - 2)),Sl.mk [] false)).bind fun b=>(zb b.2.2.2.1.K_ b.1).bind fun c=>(if decide (c.T_≠lit [])=true then (zb b.2.2.2.1.K_ b.1).bind fun d=>(A (d.a_,35,b.2.1,b.2.2.1)).bind fun e=>some (e.1,e.2,b.2.2.2.2) else some (b.2.1,b.2.2.1,b.2.2.2.2)).bind fun d=>some (d.2.2.2.1,d.1,d.2.1,d.2.2.2.2)
def q3r:zf2->Uc zie:=q9b q16 q3q q15
theorem qi8:@Eq ((zf2)->Uc zie) zse.F q3r:=by delta q3r;rw [<-qcj,<-qi7,<-qch];kernel_rfl
def q4d:zoX->Uc (Step zoX zdU):=fun a=>(zb a.2.2.2 a.1).bind fun b=>(zb a.2.2.2 a.1).bind fun c=>if decide (a.2.2.1 < c.V_.len)=true then (zb a.2.2.2 a.1).bind fun d=>(zb a.2.2.2 a.1).bind fun e=>(zb e.V_ a.2.2.1).bind fun i=>(zb a.2.2.2 a.1).bind fun j=>(zb j.V_ a.2.2.1).bind fun l=>if decide (l.n_=a.2.1)=true then some (Step.done (inl a.2.2)) else some (Step.next (a.1,a.2.1,Ud (a.2.2.1+1),a.2.2.2)) else some (Step.done (inr a.2.2.2))
def q7f (x:zb0):Uc Z3:=(lpO q4d (x.1,x.2.1,0,x.2.2)).bind fun a=>elim (fun b=>some b) (fun b=>some (-1,b)) a
def q2a:zb0->Uc Z3:=q7f
theorem qdu:@Eq ((zb0)->Uc Z3) zj7.F q2a:=by kernel_rfl
def q94 (A:zoD) (x:zb0):Uc V7:=(A x).bind fun a=>if decide (a.1 < 0)=true then some (qf.mk (lit []) 0 0,31,a.2) else (zb a.2 x.1).bind fun b=>(zb a.2 x.1).bind fun c=>(zb c.V_ a.1).bind fun d=>(zb a.2 x.1).bind fun e=>(zb e.V_ a.1).bind fun i=>(zb a.2 x.1).bind fun j=>(zb a.2 x.1).bind fun l=>(zb l.V_ a.1).bind fun m=>(zb a.2 x.1).bind fun n=>(zb n.V_ a.1).bind fun o=>some (qf.mk (lit []) i.M_ o.t_,0,a.2)
def q4i:zb0->Uc V7:=q94 q2a
theorem qf9:@Eq ((zb0)->Uc V7) znu.F q4i:=by delta q4i;rw [<-qdu];kernel_rfl
def q95 (A:zug) (x:zpa):Uc Z3:=(if decide (x.2.1.T_=lit [])=true then if decide (x.2.2.1.M_=1)=true then some (inl (0,x.2.2.2)) else some (inl (40,x.2.2.2)) else some (inr (x.1,x.2.2.2,kr x.2.1,x.2.2.1))).bind fun a=>elim (fun b=>some b) (fun b=>(A (b.1,b.2.2.1.T_,b.2.1)).bind fun c=>if decide (c.2.1≠0)=true then some c.2 else (if decide (b.2.2.2.M_=1)=true then if decide (c.1.M_=1)=true then some (inl (0,c.2.2)) else some (inl (40,c.2.2)) else some (inr (c.2.2,kr b.2.2.1,b.2.2.2,c.1))).bind fun d=>elim (fun e=>some e) (fun e=>(if decide (e.2.2.1.M_=3)=true then some (decide (e.2.2.2.M_=4),e.1,kr e.2.1,e.2.2) else some (false,e.1,kr e.2.1,e.2.2)).bind fun i=>(if decide (i.2.2.1.N_≠0)=true then some (true,i.2.1) else if decide (i.2.2.2.2.t_≠i.2.2.2.1.t_)=true then some (true,i.2.1) else if decide (i.2.2.2.2.M_≠i.2.2.2.1.M_)=true then some (!i.1,i.2.1) else some (false,i.2.1)).bind fun j=>if j.1=true then some (40,j.2) else some (0,j.2)) d) a
def q1h:zpa->Uc Z3:=q95 q4i
theorem qck:@Eq ((zpa)->Uc Z3) zj8.F q1h:=by delta q1h;rw [<-qf9];kernel_rfl
def q6q (A:zdB):zoS->Uc (Step zoS zdU):=fun a=>if decide (a.2.2.2.1 < Sl.len a.2.1)=true then (zb a.2.1 a.2.2.2.1).bind fun b=>(zb a.2.2.1 a.2.2.2.1).bind fun c=>(A (a.1,kr b,c,a.2.2.2.2)).bind fun d=>if decide (d.1≠0)=true then some (Step.done (inl d)) else some (Step.next (a.1,a.2.1,a.2.2.1,Ud (a.2.2.2.1+1),d.2)) else some (Step.done (inr a.2.2.2.2))
def q96 (A:zdB) (x:zoY):Uc Z3:=if decide (Sl.len x.2.1≠Sl.len x.2.2.1)=true then some (51,x.2.2.2) else (lpO (q6q A) (x.1,x.2.1,x.2.2.1,0,x.2.2.2)).bind fun a=>elim (fun b=>some b) (fun b=>some (0,b)) a
def q32:zoY->Uc Z3:=q96 q1h
theorem qi9:@Eq ((zoY)->Uc Z3) zsg.F q32:=by delta q32;rw [<-qck];kernel_rfl
def q43 (A:zuj):zop->Uc (Step zop zyt):=fun a=>if decide (a.2.1 < Sl.len a.2.2.1.1)=true then (zb a.2.2.1.1 a.2.1).bind fun b=>if decide (b.n_=a.2.2.2.2.1.T_)=true then (zb a.2.2.1.1 a.2.1).bind fun c=>(A (a.1,a.2.2.2.2.1.K_,c.P_,a.2.2.2.1)).bind fun d=>(zb a.2.2.1.1 a.2.1).bind fun e=>some (Step.done (inl (d.1,a.2.2.1,d.2,e.R_))) else some (Step.next (a.1,Ud (a.2.1+1),a.2.2.1,a.2.2.2.1,kr a.2.2.2.2.1,a.2.2.2.2.2)) else some (Step.done (inr (a.2.2.1,a.2.2.2.1,a.2.2.2.2.2)))
def q97 (A:zuj) (x:Y7):Uc vk:=(lpO (q43 A) (x.1,0,x.2.2.1,x.2.2.2,kr x.2.1,qf.mk (lit []) 0 0)).bind fun a=>elim (fun b=>some (b.2.2.2,b.1,b.2.1,b.2.2.1)) (fun b=>some (qf.mk (lit []) 0 0,31,b.1,b.2.1)) a
def q2l:Y7->Uc vk:=q97 q32
theorem qfa:@Eq ((Y7)->Uc vk) znv.F q2l:=by delta q2l;rw [<-qi9];kernel_rfl
def q98 (A:zug) (B:zkV) (x:Y7):Uc vk:=(if decide (x.2.1.k_=5)=true then if decide (x.2.1.T_=lit [])=true then some (inl (0,x.2.2.1,x.2.2.2,qf.mk (lit []) 1 0)) else (A (x.1,x.2.1.T_,x.2.2.2)).bind fun a=>(if decide (a.2.1=0)=true then if decide (x.2.1.N_≠0)=true then some (a.2.1,decide (a.1.M_≠1),x.2.2.1,a.2.2,qf.mk (lit []) 0 0,a.1) else some (a.2.1,false,x.2.2.1,a.2.2,qf.mk (lit []) 0 0,a.1) else some (a.2.1,false,x.2.2.1,a.2.2,qf.mk (lit []) 0 0,a.1)).bind fun b=>(if b.2.1=true then some (40,b.2.2) else some (b.1,b.2.2)).bind fun c=>some (inl (c.1,c.2.1,c.2.2.1,c.2.2.2.2)) else (if decide (x.2.1.k_=21)=true then some (x.1,x.2.1.k_,decide (x.2.1.k_=21),x.2.2.1,x.2.2.2,kr x.2.1,qf.mk (lit []) 0 0,qf.mk (lit []) 1 0) else some (x.1,x.2.1.k_,decide (x.2.1.k_=22),x.2.2.1,x.2.2.2,kr x.2.1,qf.mk (lit []) 0 0,qf.mk (lit []) 1 0)).bind fun d=>(if d.2.2.1=true then (zb d.2.2.2.2.2.1.K_ 0).bind fun e=>(A (d.1,e.T_,d.2.2.2.2.1)).bind fun i=>if decide (i.2.1≠0)=true then some (inl (i.2.1,d.2.2.2.1,i.2.2,i.1)) else (zb d.2.2.2.2.2.1.K_ 1).bind fun j=>(A (d.1,j.T_,i.2.2)).bind fun l=>if decide (l.2.1≠0)=true then some (inl (l.2.1,d.2.2.2.1,l.2.2,l.1)) else (if decide (i.1.M_≠1)=true then some (true,d.2.2.2.1,l.2.2,d.2.2.2.2.2.2.1,d.2.2.2.2.2.2.2,i.1) else some (decide (l.1.M_≠1),d.2.2.2.1,l.2.2,d.2.2.2.2.2.2.1,d.2.2.2.2.2.2.2,i.1)).bind fun m=>if m.1=true then some (inl (40,m.2.1,m.2.2.1,m.2.2.2.2.2)) else some (inl (0,m.2.1,m.2.2.1,m.2.2.2.2.1)) else (if decide (d.2.1=26)=true then some (d.1,d.2.1,decide (d.2.1=26),d.2.2.2.1,d.2.2.2.2.1,kr d.2.2.2.2.2.1,d.2.2.2.2.2.2) else some (d.1,d.2.1,decide (d.2.1=27),d.2.2.2.1,d.2.2.2.2.1,kr d.2.2.2.2.2.1,d.2.2.2.2.2.2)).bind fun n=>(if n.2.2.1=true then (A (n.1,n.2.2.2.2.2.1.T_,n.2.2.2.2.1)).bind fun o=>if decide (o.2.1≠0)=true then some (inl (o.2.1,n.2.2.2.1,o.2.2,o.1)) else if decide (o.1.M_≠2)=true then some (inl (40,n.2.2.2.1,o.2.2,o.1)) else (if decide (n.2.2.2.2.2.1.k_=27)=true then some (n.2.2.2.1,o.2.2,n.2.2.2.2.2.2.1,qf.mk o.1.n_ 4 o.1.t_) else some (n.2.2.2.1,o.2.2,n.2.2.2.2.2.2.1,qf.mk o.1.n_ 3 o.1.t_)).bind fun p=>some (inl (0,p.1,p.2.1,p.2.2.2)) else if decide (n.2.1=28)=true then (B (n.1,kr n.2.2.2.2.2.1,n.2.2.2.1,n.2.2.2.2.1)).bind fun r=>(if decide (r.2.1=0)=true then some (r.2.1,decide (r.1.M_=0),r.2.2.1,r.2.2.2,n.2.2.2.2.2.2.1,r.1) else some (r.2.1,false,r.2.2.1,r.2.2.2,n.2.2.2.2.2.2.1,r.1)).bind fun s=>(if s.2.1=true then some (35,s.2.2) else some (s.1,s.2.2)).bind fun t=>some (inl (t.1,t.2.1,t.2.2.1,t.2.2.2.2)) else some (inr (n.2.2.2.1,n.2.2.2.2.1,n.2.2.2.2.2.2))).bind fun o=>elim (fun p=>some (inl p)) (fun p=>some (inr p)) o).bind fun e=>elim (fun i=>some (inl i)) (fun i=>some (inr i)) e).bind fun a=>elim (fun b=>some (b.2.2.2,b.1,b.2.1,b.2.2.1)) (fun b=>some (b.2.2.2,50,b.1,b.2.1)) a
def q33:Y7->Uc vk:=q98 q4i q2l
theorem qia:@Eq ((Y7)->Uc vk) zsh.F q33:=by delta q33;rw [<-qf9,<-qfa];kernel_rfl
def q3m (A:zdB):zoG->Uc (Step zoG zdU):=fun a=>if decide (a.2.2.2.1 < Sl.len a.2.1)=true then (zb a.2.1 a.2.2.2.1).bind fun b=>(zb a.2.2.2.2 a.2.2.1.1).bind fun c=>(Zg c.V_ a.2.2.1.2.1 a.2.2.1.2.2).bind fun d=>(zb d a.2.2.2.1).bind fun e=>(zb a.2.2.2.2 a.2.2.1.1).bind fun i=>(zb i.V_ (a.2.2.1.2.1+a.2.2.2.1)).bind fun j=>(A (a.1,kr b,j,a.2.2.2.2)).bind fun l=>if decide (l.1≠0)=true then some (Step.done (inl l)) else some (Step.next (a.1,a.2.1,a.2.2.1,Ud (a.2.2.2.1+1),l.2)) else some (Step.done (inr a.2.2.2.2))
def q7g (A:zdB) (x:zoJ):Uc Z3:=(zb x.2.2.2 x.2.2.1.1).bind fun a=>(Zg a.V_ x.2.2.1.2.1 x.2.2.1.2.2).bind fun b=>if decide (Sl.len x.2.1≠x.2.2.1.2.2 - x.2.2.1.2.1)=true then some (51,x.2.2.2) else (lpO (q3m A) (x.1,x.2.1,x.2.2.1,0,x.2.2.2)).bind fun c=>elim (fun d=>some d) (fun d=>some (0,d)) c
def q2m:zoJ->Uc Z3:=q7g q1h
theorem qgu:@Eq ((zoJ)->Uc Z3) zsi.F q2m:=by delta q2m;rw [<-qck];kernel_rfl
def q4j (A:zkV) (B:zoD) (C:zkV) (D:zt6) (E:zdB):zox->Uc (Step zox zbU):=fun a=>if decide (a.2.1 < Sl.len a.2.2.2.1)=true then (zb a.2.2.2.1 a.2.1).bind fun b=>(zb a.2.2.2.1 a.2.1).bind fun c=>if decide (c.n_=a.2.2.2.2.T_)=true then (zb a.2.2.2.1 a.2.1).bind fun d=>(zb a.2.2.2.1 a.2.1).bind fun e=>(zb a.2.2.2.1 a.2.1).bind fun i=>(zb a.2.2.2.1 a.2.1).bind fun j=>(zb a.2.2.2.1 a.2.1).bind fun l=>(Zg l.V_ 0 j.P_).bind fun m=>(D (a.1,a.2.2.2.2.K_,(a.2.1,0,j.P_),a.2.2.2.1)).bind fun n=>some (Step.done (inl (n.1,a.2.2.1,n.2))) else some (Step.next (a.1,Ud (a.2.1+1),a.2.2.1,a.2.2.2.1,kr a.2.2.2.2)) else some (Step.done (inr (a.2.2.1,a.2.2.2.1)))
def q2n (A:zkV) (B:zoD) (C:zkV) (D:zt6) (E:zdB) (x:Y7):Uc WI:=(if decide (x.2.1.k_=10)=true then (zb x.2.1.K_ 0).bind fun a=>(A (x.1,kr a,x.2.2)).bind fun b=>if decide (b.2.1≠0)=true then some (inl b.2) else (B (x.1,x.2.1.T_,b.2.2.2)).bind fun c=>if decide (c.1 < 0)=true then (zb c.2 x.1).bind fun d=>(zb c.2 x.1).bind fun e=>(zp 32 e.V_ [qf.mk x.2.1.T_ b.1.M_ b.1.t_]).bind fun i=>(zb c.2 x.1).bind fun j=>bif decide (x.1=x.1) then some (inl (0,b.2.2.1,Sl.set c.2 x.1 (qe.mk j.n_ j.P_ i))) else none else (zb c.2 x.1).bind fun l=>(zb c.2 x.1).bind fun m=>(zb m.V_ c.1).bind fun n=>(zb c.2 x.1).bind fun o=>(zb o.V_ c.1).bind fun p=>if (!(decide (p.n_=x.2.1.T_) && (decide (p.M_=b.1.M_) && (decide (p.t_=b.1.t_) && true))))=true then some (inl (40,b.2.2.1,c.2)) else some (inl (0,b.2.2.1,c.2)) else (if decide (x.2.1.k_=20)=true then (zb x.2.1.K_ 0).bind fun r=>(C (x.1,kr r,x.2.2)).bind fun s=>some (inl s.2) else (if decide (x.2.1.k_=19)=true then (lpO (q4j A B C D E) (x.1,0,x.2.2.1,x.2.2.2,kr x.2.1)).bind fun t=>elim (fun u=>some (inl u)) (fun u=>some (inl (31,u))) t else (if decide (x.2.1.k_=15)=true then some (x.1,x.2.1.k_,decide (x.2.1.k_=15),x.2.2.1,x.2.2.2,kr x.2.1,qf.mk (lit []) 1 0) else some (x.1,x.2.1.k_,decide (x.2.1.k_=16),x.2.2.1,x.2.2.2,kr x.2.1,qf.mk (lit []) 1 0)).bind fun u=>(if u.2.2.1=true then (zb u.2.2.2.2.2.1.K_ 0).bind fun v=>(E (u.1,kr v,u.2.2.2.2.2.2,u.2.2.2.2.1)).bind fun w=>if decide (w.1≠0)=true then some (inl (w.1,u.2.2.2.1,w.2)) else (zb u.2.2.2.2.2.1.K_ 1).bind fun z=>(E (u.1,kr z,u.2.2.2.2.2.2,w.2)).bind fun G=>some (inl (G.1,u.2.2.2.1,G.2)) else (if decide (u.2.1=17)=true then if decide (0 < u.2.2.2.2.2.1.K_.len)=true then some (inl (35,u.2.2.2.1,u.2.2.2.2.1)) else some (inl (0,u.2.2.2.1,u.2.2.2.2.1)) else if decide (u.2.1=18)=true then some (inl (0,u.2.2.2.1,u.2.2.2.2.1)) else some (inr (u.2.2.2.1,u.2.2.2.2.1))).bind fun H=>elim (fun I=>some (inl I)) (fun I=>some (inr I)) H).bind fun v=>elim (fun w=>some (inl w)) (fun w=>some (inr w)) v).bind fun t=>elim (fun u=>some (inl u)) (fun u=>some (inr u)) t).bind fun r=>elim (fun s=>some (inl s)) (fun s=>some (inr s)) r).bind fun a=>elim (fun b=>some b) (fun b=>some (50,b)) a
def q1f:Y7->Uc WI:=q2n q33 q2a q2l q2m q1h
theorem qir:@Eq ((Y7)->Uc WI) znw.F q1f:=by delta q1f;rw [<-qia,<-qdu,<-qfa,<-qgu,<-qck];kernel_rfl
def q4s (A:zti) (B:zc7) (C:zg3):zok->Uc (Step zok zdy):=fun a=>if decide (a.2.2.2.1 < a.2.2.2.2.2.2.K_.len)=true then (zb a.2.2.2.2.2.2.K_ a.2.2.2.1).bind fun b=>(C (a.1,b.K_,a.2.2.2.2.1,a.2.2.2.2.2.1)).bind fun c=>some (Step.next (a.1,a.2.1,a.2.2.1,Ud (a.2.2.2.1+1),c.1,c.2,kr a.2.2.2.2.2.2)) else some (Step.done (a.1,a.2.1,a.2.2.1,a.2.2.2.2.1,a.2.2.2.2.2.1))
def q37 (A:zti) (B:zc7) (C:zg3):zdy->Uc (Step zdy ztZ):=fun a=>(if decide (a.2.2.1 < Sl.len a.2.1)=true then some (a.1,a.2.1,a.2.2.1,decide (a.2.2.2.1.2.2.2=0),a.2.2.2) else some (a.1,a.2.1,a.2.2.1,false,a.2.2.2)).bind fun b=>if b.2.2.2.1=true then (zb b.2.1 b.2.2.1).bind fun c=>(A (b.1,kr c,b.2.2.2.2)).bind fun d=>if decide (d.1≠0)=true then (B (c.a_,d)).bind fun e=>some (Step.done (inl e)) else (if decide (c.k_=15)=true then some (b.1,b.2.1,b.2.2.1,true,d.2.1,d.2.2,kr c) else some (b.1,b.2.1,b.2.2.1,decide (c.k_=16),d.2.1,d.2.2,kr c)).bind fun i=>(if i.2.2.2.1=true then (lpO (q4s A B C) (i.1,i.2.1,i.2.2.1,2,i.2.2.2.2.1,i.2.2.2.2.2.1,kr i.2.2.2.2.2.2)).bind fun j=>some j else some (i.1,i.2.1,i.2.2.1,i.2.2.2.2.1,i.2.2.2.2.2.1)).bind fun j=>some (Step.next (j.1,j.2.1,Ud (j.2.2.1+1),j.2.2.2)) else some (Step.done (inr b.2.2.2.2))
def q69 (A:zti) (B:zc7) (C:zg3) (x:zuk):Uc Zz:=(lpO (q37 A B C) (x.1,x.2.1,0,x.2.2)).bind fun a=>elim (fun b=>some b) (fun b=>some b) a
def q4v (h:zbS):zbS:=q69 q1f q16 h
theorem qgv (h:zbS):@Eq zbS (zh1 h) (q4v h):=by delta q4v;rw [<-qir,<-qcj];kernel_rfl
def q2o:Nat->zuk->Uc Zz
  |0=>fun _=>none
  |k+1=>q4v (q2o k)
theorem qdv:∀ k,@Eq zbS (zfA k) (q2o k)
  |0=>rfl
  |k+1=>(qgv (zfA k)).trans (congrArg q4v (qdv k))
def q44:zbS:=q2o 100000
theorem qhi:@Eq zbS zxg q44:=qdv 100000
def qcu (x:q6):Uc ql:=some (ql.mk x.T_ x.N_)
def q1r:w6:=qcu
theorem qaz:@Eq w6 zcN.F q1r:=by kernel_rfl
def q64 (A:w6):zpc->Uc (Step zpc (Sl ql)):=fun a=>if decide (a.2.1 < Sl.len a.1)=true then (zb a.1 a.2.1).bind fun b=>(A (kr b)).bind fun c=>(zp 24 a.2.2 [c]).bind fun d=>some (Step.next (a.1,Ud (a.2.1+1),d)) else some (Step.done a.2.2)
def qbb (A:w6) (x:G6):Uc (Sl ql):=(lpO (q64 A) (x,0,Sl.mk [] false)).bind fun a=>some a
def q57:G6->Uc (Sl ql):=qbb q1r
theorem qeo:@Eq ((Sl q6)->Uc (Sl ql)) znz.F q57:=by delta q57;rw [<-qaz];kernel_rfl
def q9w (A:w6) (B:G6->Uc (Sl ql)) (x:q6):Uc zoc:=(zb x.K_ 0).bind fun a=>(if decide (a.k_=26)=true then some (a.k_,decide (a.k_=26),(0,0,lit [],lit [],lit [],0,lit [],0,0,false),kr a,0,x.a_,x.T_,lit [],a.T_,a.N_,lit [],0,0,false) else some (a.k_,decide (a.k_=27),(0,0,lit [],lit [],lit [],0,lit [],0,0,false),kr a,0,x.a_,x.T_,lit [],a.T_,a.N_,lit [],0,0,false)).bind fun (b:Int×Bool×(Int×Int×Ua×Ua×Ua×Int×Ua×Int×Int×Bool)×q6×Int×Int×Ua×Ua×Ua×Int×Ua×Int×Int×Bool)=>(if b.2.1=true then some (b.2.2.1,(b.2.2.2.2.1,b.2.2.2.2.2.1,b.2.2.2.2.2.2.1,b.2.2.2.2.2.2.2.1,b.2.2.2.1.T_,0,b.2.2.2.2.2.2.2.2.2.2),Sl.mk [] false) else (if decide (b.1=21)=true then (zb b.2.2.2.1.K_ 0).bind fun c=>(A (kr c)).bind fun d=>(zb b.2.2.2.1.K_ 1).bind fun e=>(A (kr e)).bind fun i=>some (b.2.2.1,(1,b.2.2.2.2.2.1,b.2.2.2.2.2.2.1,b.2.2.2.2.2.2.2.1,d.n_,d.N_,i.n_,i.N_,b.2.2.2.2.2.2.2.2.2.2.2.2),Sl.mk [] false) else (if decide (b.1=22)=true then (zb b.2.2.2.1.K_ 0).bind fun j=>(A (kr j)).bind fun l=>(zb b.2.2.2.1.K_ 1).bind fun m=>(A (kr m)).bind fun n=>some (b.2.2.1,(2,b.2.2.2.2.2.1,b.2.2.2.2.2.2.1,b.2.2.2.2.2.2.2.1,l.n_,l.N_,n.n_,n.N_,b.2.2.2.2.2.2.2.2.2.2.2.2),Sl.mk [] false) else (if decide (b.1=23)=true then some (b.2.2.1,(3,b.2.2.2.2.2.1,b.2.2.2.2.2.2.1,b.2.2.2.2.2.2.2.1,lit [],b.2.2.2.1.N_,b.2.2.2.2.2.2.2.2.2.2),Sl.mk [] false) else (if decide (b.1=24)=true then some (b.2.2.1,(4,b.2.2.2.2.2.1,b.2.2.2.2.2.2.1,b.2.2.2.2.2.2.2.1,b.2.2.2.1.T_,0,b.2.2.2.2.2.2.2.2.2.2),Sl.mk [] false) else (if decide (b.1=25)=true then (zb b.2.2.2.1.K_ 0).bind fun o=>(A (kr o)).bind fun p=>some (b.2.2.1,(5,b.2.2.2.2.2.1,b.2.2.2.2.2.2.1,b.2.2.2.1.T_,p.n_,p.N_,b.2.2.2.2.2.2.2.2.2.2),Sl.mk [] false) else (if decide (b.1=28)=true then (B b.2.2.2.1.K_).bind fun r=>some (b.2.2.1,(12,b.2.2.2.2.2.1,b.2.2.2.2.2.2.1,b.2.2.2.1.T_,lit [],0,b.2.2.2.2.2.2.2.2.2.2),r) else some (b.2.2.1,b.2.2.2.2,Sl.mk [] false)).bind fun (r:tA1)=>some r).bind fun (o:tA1)=>some o).bind fun (o:tA1)=>some o).bind fun (o:tA1)=>some o).bind fun (j:tA1)=>some j).bind fun (c:tA1)=>some c).bind fun (c:tA1)=>some c.2
def q5y:zbR:=q9w q1r q57
theorem qis:@Eq zbR zsj.F q5y:=by delta q5y;rw [<-qaz,<-qeo];kernel_rfl
def q7z (A:zbR) (B:w6) (C:G6->Uc (Sl ql)) (x:q6):Uc zoc:=if decide (x.k_=10)=true then (A (kr x)).bind fun a=>some a else (if decide (x.k_=11)=true then (zb x.K_ 0).bind fun b=>(B (kr b)).bind fun c=>(zb x.K_ 1).bind fun d=>(B (kr d)).bind fun e=>some ((0,0,lit [],lit [],lit [],0,lit [],0,0,false),(6,x.a_,lit [],x.T_,c.n_,c.N_,e.n_,e.N_,0,false),Sl.mk [] false) else (if decide (x.k_=12)=true then some ((0,0,lit [],lit [],lit [],0,lit [],0,0,false),(7,x.a_,lit [],x.T_,lit [],0,lit [],0,0,false),Sl.mk [] false) else (if decide (x.k_=13)=true then some ((0,0,lit [],lit [],lit [],0,lit [],0,0,false),(8,x.a_,lit [],x.T_,lit [],x.N_,lit [],0,0,false),Sl.mk [] false) else (if decide (x.k_=14)=true then some ((0,0,lit [],lit [],lit [],0,lit [],0,0,false),(9,x.a_,lit [],x.T_,lit [],x.N_,lit [],0,0,false),Sl.mk [] false) else (if decide (x.k_=20)=true then (zb x.K_ 0).bind fun i=>(zb x.K_ 0).bind fun j=>(C j.K_).bind fun l=>some ((0,0,lit [],lit [],lit [],0,lit [],0,0,false),(12,x.a_,lit [],i.T_,lit [],0,lit [],0,0,false),l) else (if decide (x.k_=19)=true then (C x.K_).bind fun m=>some ((0,0,lit [],lit [],lit [],0,lit [],0,0,false),(13,x.a_,lit [],x.T_,lit [],0,lit [],0,0,false),m) else (if decide (x.k_=17)=true then (if decide (0 < x.K_.len)=true then (zb x.K_ 0).bind fun n=>(B (kr n)).bind fun o=>some ((0,0,lit [],lit [],lit [],0,lit [],0,0,false),14,x.a_,lit [],lit [],o.n_,o.N_,lit [],0,0,true) else some ((0,0,lit [],lit [],lit [],0,lit [],0,0,false),14,x.a_,lit [],lit [],lit [],0,lit [],0,0,false)).bind fun (n:tA5)=>some n else (if decide (x.k_=18)=true then some ((0,0,lit [],lit [],lit [],0,lit [],0,0,false),15,x.a_,lit [],lit [],lit [],0,lit [],0,0,false) else some ((0,0,lit [],lit [],lit [],0,lit [],0,0,false),0,x.a_,lit [],x.T_,lit [],0,lit [],0,0,false)).bind fun (o:tA5)=>some o).bind fun (n:tA5)=>some (n.1,n.2,Sl.mk [] false)).bind fun (m:tA1)=>some m).bind fun (i:tA1)=>some i).bind fun (i:tA1)=>some i).bind fun (i:tA1)=>some i).bind fun (i:tA1)=>some i).bind fun (b:tA1)=>some b.2
def q1u:zbR:=q7z q5y q1r q57
theorem qhj:@Eq zbR znA.F q1u:=by delta q1u;rw [<-qis,<-qaz,<-qeo];kernel_rfl
def q4n (A:zbR) (B:w6) (C:zdQ):zos->Uc (Step zos zuB):=fun a=>if decide (a.2.2.2.2.1 < Sl.len a.2.2.2.2.2.2.2.2)=true then (zb a.2.2.2.2.2.2.2.2 a.2.2.2.2.1).bind fun b=>(zb a.2.2.2.2.2.2.2.2 a.2.2.2.2.1).bind fun c=>(zp 136 a.2.2.2.2.2.2.1 [c]).bind fun d=>some (Step.next (a.1,a.2.1,a.2.2.1,a.2.2.2.1,Ud (a.2.2.2.2.1+1),kr a.2.2.2.2.2.1,d,kr a.2.2.2.2.2.2.2.1,a.2.2.2.2.2.2.2.2)) else some (Step.done (a.1,a.2.1,a.2.2.1,a.2.2.2.1,kr a.2.2.2.2.2.1,a.2.2.2.2.2.2.1,kr a.2.2.2.2.2.2.2.1))
def q4o (A:zbR) (B:w6) (C:zdQ):zoN->Uc (Step zoN zdT):=fun a=>if decide (a.2.2.1 < Sl.len a.2.2.2.2.2)=true then (zb a.2.2.2.2.2 a.2.2.1).bind fun b=>(zb a.2.2.2.2.2 a.2.2.1).bind fun c=>(zp 136 a.2.2.2.2.1 [c]).bind fun d=>some (Step.next (a.1,a.2.1,Ud (a.2.2.1+1),kr a.2.2.2.1,d,a.2.2.2.2.2)) else some (Step.done (a.1,a.2.1,kr a.2.2.2.1,a.2.2.2.2.1))
def q36 (A:zbR) (B:w6) (C:zdQ):zdT->Uc (Step zdT (Sl qk)):=fun a=>if decide (a.2.1 < a.2.2.1.K_.len)=true then ((zb a.2.2.1.K_ a.2.1).bind fun b=>(if decide (b.k_≠15)=true then some (a.1,a.2.1,Ud (a.1+Sl.len a.2.2.2),decide (b.k_≠16),kr a.2.2.1,a.2.2.2,kr b) else some (a.1,a.2.1,Ud (a.1+Sl.len a.2.2.2),false,kr a.2.2.1,a.2.2.2,kr b)).bind fun c=>if c.2.2.2.1=true then (A (kr c.2.2.2.2.2.2)).bind fun d=>(zp 136 c.2.2.2.2.2.1 [qk.mk d.1.1 d.1.2.1 d.1.2.2.1 d.1.2.2.2.1 (ql.mk d.1.2.2.2.2.1 d.1.2.2.2.2.2.1) (ql.mk d.1.2.2.2.2.2.2.1 d.1.2.2.2.2.2.2.2.1) d.2 d.1.2.2.2.2.2.2.2.2.1 d.1.2.2.2.2.2.2.2.2.2]).bind fun e=>some (c.1,c.2.1,kr c.2.2.2.2.1,e) else (zb c.2.2.2.2.2.2.K_ 0).bind fun i=>(B (kr i)).bind fun j=>(zb c.2.2.2.2.2.2.K_ 1).bind fun l=>(B (kr l)).bind fun m=>(zb c.2.2.2.2.2.2.K_ 2).bind fun n=>(C (kr n,Ud (c.2.2.1+1))).bind fun o=>(zp 136 c.2.2.2.2.2.1 [qk.mk 10 c.2.2.2.2.2.2.a_ c.2.2.2.2.2.2.T_ (lit []) j m (Sl.mk [] false) (Ud (Ud (Ud (c.2.2.1+1)+o.len)+1)) false]).bind fun p=>(lpO (q4n A B C) (c.1,c.2.1,c.2.2.1,Ud (Ud (c.2.2.1+1)+o.len),0,kr c.2.2.2.2.1,p,kr c.2.2.2.2.2.2,o)).bind fun r=>if decide (r.2.2.2.2.2.2.k_=16)=true then (zp 136 r.2.2.2.2.2.1 [qk.mk 11 r.2.2.2.2.2.2.a_ (lit []) (lit []) (ql.mk (lit []) 0) (ql.mk (lit []) 0) (Sl.mk [] false) r.2.2.1 false]).bind fun s=>some (r.1,r.2.1,kr r.2.2.2.2.1,s) else (zb r.2.2.2.2.2.2.K_ 3).bind fun t=>(C (kr t,Ud (r.2.2.2.1+1))).bind fun u=>(zp 136 r.2.2.2.2.2.1 [qk.mk 11 r.2.2.2.2.2.2.a_ (lit []) (lit []) (ql.mk (lit []) 0) (ql.mk (lit []) 0) (Sl.mk [] false) (Ud (Ud (r.2.2.2.1+1)+u.len)) false]).bind fun v=>(lpO (q4o A B C) (r.1,r.2.1,0,kr r.2.2.2.2.1,v,u)).bind fun w=>some (w.1,w.2.1,kr w.2.2.1,w.2.2.2)).bind fun b=>some (Step.next (b.1,Ud (b.2.1+1),kr b.2.2.1,b.2.2.2)) else some (Step.done a.2.2.2)
def q6a (A:zbR) (B:w6) (C:zdQ) (x:q6×Int):Uc (Sl qk):=(lpO (q36 A B C) (x.2,0,kr x.1,Sl.mk [] false)).bind fun a=>some a
def q4w (h:vo):vo:=q6a q1u q1r h
theorem qgw (h:vo):@Eq vo (zh2 h) (q4w h):=by delta q4w;rw [<-qhj,<-qaz];kernel_rfl
def q29:Nat->(q6×Int)->Uc (Sl qk)
  |0=>fun _=>none
  |k+1=>q4w (q29 k)
theorem qdw:∀ k,@Eq vo (zfB k) (q29 k)
  |0=>rfl
  |k+1=>(qgw (zfB k)).trans (congrArg q4w (qdw k))
def q40:vo:=q29 100000
theorem qhk:@Eq vo zxk q40:=qdw 100000
def q4p (A:zdQ):zot->Uc (Step zot zum):=fun a=>if decide (a.2.1 < Ud (a.1 - 1))=true then (zb a.2.2.1.K_ a.2.1).bind fun b=>(zp 16 a.2.2.2.2.2 [b.T_]).bind fun c=>some (Step.next (a.1,Ud (a.2.1+1),kr a.2.2.1,a.2.2.2.1,a.2.2.2.2.1,c)) else some (Step.done (a.1,kr a.2.2.1,a.2.2.2))
def q80 (A:zdQ) (x:q6):Uc zoT:=(lpO (q4p A) (Ud (x.K_.len - 1),0,kr x,lit [],x.T_,Sl.mk [] false)).bind fun a=>(zb a.2.1.K_ a.1).bind fun b=>(A (kr b,0)).bind fun c=>(zb a.2.1.K_ a.1).bind fun d=>(zp 136 c [qk.mk 14 d.a_ (lit []) (lit []) (ql.mk (lit []) 0) (ql.mk (lit []) 0) (Sl.mk [] false) 0 false]).bind fun e=>some (a.2.2.2.1,a.2.2.2.2,e)
def q25:zbW:=q80 q40
theorem qep:@Eq zbW znC.F q25:=by delta q25;rw [<-qhk];kernel_rfl
def q38 (A:zc7) (B:ztf) (C:zg3) (D:zbW):Y7->Uc (Step Y7 zf2):=fun a=>(if decide (a.1 < a.2.1.K_.len)=true then some (a.1,decide (a.2.2.1.2.2.2=0),kr a.2.1,a.2.2) else some (a.1,false,kr a.2.1,a.2.2)).bind fun b=>if b.2.1=true then (zb b.2.2.1.K_ b.1).bind fun c=>if decide (c.k_≠6)=true then (zb b.2.2.1.K_ b.1).bind fun d=>(A (d.a_,50,b.2.2.2)).bind fun e=>some (Step.done (kr b.2.2.1,e)) else (zb b.2.2.1.K_ b.1).bind fun i=>(B (kr i,b.2.2.2)).bind fun j=>(zp 48 j.2.2.1 [qe.mk j.1.1 j.1.2 j.2.2.2]).bind fun l=>some (Step.next (Ud (b.1+1),kr b.2.2.1,j.2.1,l)) else some (Step.done (kr b.2.2.1,b.2.2.2))
def q39 (A:zc7) (B:ztf) (C:zg3) (D:zbW):Y7->Uc (Step Y7 Zz):=fun a=>(if decide (a.1 < a.2.1.K_.len)=true then some (a.1,decide (a.2.2.1.2.2.2=0),kr a.2.1,a.2.2) else some (a.1,false,kr a.2.1,a.2.2)).bind fun b=>if b.2.1=true then (zb b.2.2.1.K_ b.1).bind fun c=>(zb b.2.2.2.2 b.1).bind fun d=>(zb c.K_ (Ud (c.K_.len - 1))).bind fun e=>(C (b.1,e.K_,b.2.2.2)).bind fun i=>(D (kr c)).bind fun j=>((zb i.2 b.1).bind fun l=>(zb i.2 b.1).bind fun m=>(zb i.2 b.1).bind fun n=>if decide (64 < n.V_.len)=true then some (b.1,true,kr b.2.2.1,i.1,kr c,i.2) else some (b.1,decide (512 < Sl.len j.2.2),kr b.2.2.1,i.1,kr c,i.2)).bind fun l=>(if l.2.1=true then (A (l.2.2.2.2.1.a_,22,l.2.2.2.1,l.2.2.2.2.2)).bind fun m=>some (l.1,kr l.2.2.1,m) else some (l.1,kr l.2.2.1,l.2.2.2.1,l.2.2.2.2.2)).bind fun m=>some (Step.next (Ud (m.1+1),kr m.2.1,m.2.2)) else some (Step.done b.2.2.2)
def q82 (A:zc7) (B:ztf) (C:zg3) (D:zbW) (x:zpf):Uc Zz:=(lpO (q38 A B C D) (0,kr x.1,(x.2.1,x.2.2,0,0),Sl.mk [] false)).bind fun a=>(lpO (q39 A B C D) (0,kr a.1,a.2)).bind fun b=>(if decide (b.1.2.2.2≠0)=true then some (b.1,Sl.mk [] false) else some b).bind fun c=>some c
def q3i:zpf->Uc Zz:=q82 q16 q3r q44 q25
theorem qhl:@Eq ((zpf)->Uc Zz) zsk.F q3i:=by delta q3i;rw [<-qcj,<-qi8,<-qhi,<-qep];kernel_rfl
def q4e (A:ziD) (B:zdH) (C:zdI) (D:zun) (E:zt4) (G:zb2) (H:zbW):zn9->Uc (Step zn9 zt1):=fun a=>if decide (a.2.2.2.1 < a.2.2.1)=true then (zb a.2.1 a.2.2.2.1).bind fun b=>(if decide (b.k_=6)=true then (G (kg b)).bind fun c=>(zp 64 a.2.2.2.2.2.2.2.2.2.1 [c]).bind fun d=>(zb a.2.2.2.2.2.1.K_ a.2.2.2.1).bind fun e=>(H (kr e)).bind fun i=>(zp 64 a.2.2.2.2.2.2.2.2.2.2 [q18.mk i.1 i.2.1 i.2.2]).bind fun j=>some (a.1,a.2.1,a.2.2.1,a.2.2.2.1,a.2.2.2.2.1,kr a.2.2.2.2.2.1,a.2.2.2.2.2.2.1,a.2.2.2.2.2.2.2.1,a.2.2.2.2.2.2.2.2.1,d,j) else some (a.1,a.2.1,a.2.2.1,a.2.2.2.1,a.2.2.2.2.1,kr a.2.2.2.2.2.1,a.2.2.2.2.2.2)).bind fun c=>some (Step.next (c.1,c.2.1,c.2.2.1,Ud (c.2.2.2.1+1),c.2.2.2.2.1,kr c.2.2.2.2.2.1,c.2.2.2.2.2.2)) else some (Step.done (a.1,a.2.2.2.2.1,a.2.2.2.2.2.2))
def q7h (A:ziD) (B:zdH) (C:zdI) (D:zun) (E:zt4) (G:zb2) (H:zbW) (x:xa):Uc zi1:=(A x.1).bind fun a=>(B x.2).bind fun b=>(if (!a.2)=true then some (x.2,true,a.1,kg b.1) else some (x.2,decide (b.2.2≠0),a.1,kg b.1)).bind fun c=>if c.2.1=true then some (c.2.2.1,q1l.mk (Sl.mk [] false) (Sl.mk [] false) (Sl.mk [] false) (Sl.mk [] false),false) else (C c.1).bind fun d=>(D (kg c.2.2.2,c.2.2.1.q_,c.2.2.1.z_)).bind fun e=>(E (kr d.1,c.2.2.1.E_,c.2.2.1.I_)).bind fun i=>(lpO (q4e A B C D E G H) (e.2.1,c.2.2.2.K_,c.2.2.2.K_.len,0,c.2.2.1,kr d.1,e.2.2,i.1,i.2,Sl.mk [] false,Sl.mk [] false)).bind fun j=>(if decide (j.1=0)=true then if decide (j.2.2.2.1.2.2.2=0)=true then if decide (Sl.len j.2.2.1=Sl.len j.2.2.2.2.2.1)=true then some (decide (Sl.len j.2.2.2.2.1=Sl.len j.2.2.1),j.2.1,j.2.2.1,j.2.2.2.2.2.1,j.2.2.2.2.1,j.2.2.2.2.2.2) else some (false,j.2.1,j.2.2.1,j.2.2.2.2.2.1,j.2.2.2.2.1,j.2.2.2.2.2.2) else some (false,j.2.1,j.2.2.1,j.2.2.2.2.2.1,j.2.2.2.2.1,j.2.2.2.2.2.2) else some (false,j.2.1,j.2.2.1,j.2.2.2.2.2.1,j.2.2.2.2.1,j.2.2.2.2.2.2)).bind fun l=>some (l.2.1,q1l.mk l.2.2.1 l.2.2.2.1 l.2.2.2.2.1 l.2.2.2.2.2,l.1)
def q3a:xa->Uc zi1:=q7h q2x q5h q2e q77 q3i q5c q25
theorem qgx:@Eq ((xa)->Uc zi1) zsl.F q3a:=by delta q3a;rw [<-qgb,<-qh4,<-qem,<-qjw,<-qhl,<-qj3,<-qep];kernel_rfl
def q4t (A:zul):zoO->Uc (Step zoO (Sl qp×Sl qr)):=fun a=>if decide (a.2.1 < a.1)=true then (zb a.2.2.2.1.U_ a.2.1).bind fun b=>(zb a.2.2.2.1.W_ a.2.1).bind fun c=>(zp 184 a.2.2.2.2.1 [qp.mk b c a.2.2.1.q_ a.2.2.2.1.W_ a.2.2.1.z_]).bind fun d=>(zb a.2.2.2.1.j_ a.2.1).bind fun e=>(zb a.2.2.2.1.r_ a.2.1).bind fun i=>(zp 8 a.2.2.2.2.2 [qr.mk e i a.2.2.1.E_ a.2.2.2.1.r_ a.2.2.1.I_]).bind fun j=>some (Step.next (a.1,Ud (a.2.1+1),a.2.2.1,a.2.2.2.1,d,j)) else some (Step.done a.2.2.2.2)
def q83 (A:zul) (x:xa):Uc zf8:=(A x).bind fun a=>if (!a.2.2)=true then some (false,Sl.mk [] false,Sl.mk [] false) else (lpO (q4t A) (a.2.1.W_.len,0,a.1,a.2.1,Sl.mk [] false,Sl.mk [] false)).bind fun b=>some (true,b)
def q1j:xa->Uc zf8:=q83 q3a
theorem qbw:@Eq ((xa)->Uc zf8) znD.F q1j:=by delta q1j;rw [<-qgx];kernel_rfl
def qd5 (x:qc×qi):Uc zgd:=some (decide (x.1.n_=x.2.Y_),x.2)
def q75:qc×qi->Uc zgd:=qd5
theorem qjd:@Eq ((qc×qi)->Uc zgd) znE.F q75:=by kernel_rfl
def q6r (A:zuQ):zo8->Uc (Step zo8 (Int×qi⊕qi)):=fun a=>if decide (a.2.2.1 < a.2.1)=true then (zb a.1 a.2.2.1).bind fun b=>(A (b,a.2.2.2)).bind fun c=>if c.1=true then some (Step.done (inl (a.2.2.1,c.2))) else some (Step.next (a.1,a.2.1,Ud (a.2.2.1+1),c.2)) else some (Step.done (inr a.2.2.2))
def qav (A:zuQ) (x:GO×qi):Uc (Int×qi):=(lpO (q6r A) (x.1,Sl.len x.1,0,x.2)).bind fun a=>elim (fun b=>some b) (fun b=>some (-1,b)) a
def q4z:zuL:=qav q75
theorem qje:@Eq ((Sl qc×qi)->Uc (Int×qi)) zsm.F q4z:=by delta q4z;rw [<-qjd];kernel_rfl
def qc8 (x:Int):GG:=(if decide (x=0)=true then some true else if decide (x=1)=true then some true else some (decide (x=3))).bind fun a=>some a
def q5u:zS:=qc8
theorem qfb:@Eq zS zj9.F q5u:=by kernel_rfl
def qau (A:zS) (x:qg×qp):Uc vu:=(if decide (x.1.M_=2)=true then (zb x.2.Q_ x.1.t_).bind fun a=>(A a.S_).bind fun b=>some (!b,x.2) else some (false,x.2)).bind fun a=>some a
def q4y:qg×qp->Uc vu:=qau q5u
theorem qjf:@Eq ((qg×qp)->Uc vu) zsn.F q4y:=by delta q4y;rw [<-qfb];kernel_rfl
def q5p (A:zuR):zo9->Uc (Step zo9 (Int×qp⊕qp)):=fun a=>if decide (a.2.2.1 < a.2.1)=true then (zb a.1 a.2.2.1).bind fun b=>(A (b,a.2.2.2)).bind fun c=>if c.1=true then some (Step.done (inl (a.2.2.1,c.2))) else some (Step.next (a.1,a.2.1,Ud (a.2.2.1+1),c.2)) else some (Step.done (inr a.2.2.2))
def q9z (A:zuR) (x:zb4):Uc (Int×qp):=(lpO (q5p A) (x.1,Sl.len x.1,0,x.2)).bind fun a=>elim (fun b=>some b) (fun b=>some (-1,b)) a
def q7n:zb4->Uc (Int×qp):=q9z q4y
theorem qit:@Eq ((zb4)->Uc (Int×qp)) zso.F q7n:=by delta q7n;rw [<-qjf];kernel_rfl
def q84 (A:zb4->Uc (Int×qp)) (x:zb4):Uc vu:=(A x).bind fun a=>some (decide (0<=a.1),a.2)
def q3j:zb4->Uc vu:=q84 q7n
theorem qhm:@Eq ((zb4)->Uc vu) zsp.F q3j:=by delta q3j;rw [<-qit];kernel_rfl
def q7r (A:zuL) (B:zuI):ziP->Uc (Step ziP yI):=fun a=>if decide (a.2.2.1 < a.2.1)=true then ((zb a.1 a.2.2.1).bind fun b=>if decide (b.O_≠13)=true then some (inl a) else (A (a.2.2.2.F_,b)).bind fun c=>(if decide (0<=c.1)=true then (zb a.2.2.2.F_ c.1).bind fun d=>(zb a.2.2.2.F_ c.1).bind fun e=>(Zg d.V_ 0 e.P_).bind fun i=>(B (i,a.2.2.2)).bind fun j=>some (a.1,a.2.1,a.2.2.1,j.1,j.2,c.2) else some (a.1,a.2.1,a.2.2.1,false,a.2.2.2,c.2)).bind fun d=>if d.2.2.2.1=true then some (inr (d.2.2.2.2.2.a_,54)) else some (inl (d.1,d.2.1,d.2.2.1,d.2.2.2.2.1))).bind fun b=>elim (fun c=>some (Step.next (c.1,c.2.1,Ud (c.2.2.1+1),c.2.2.2))) (fun c=>some (Step.done (inl c))) b else some (Step.done (inr ()))
def qc9 (A:zuL) (B:zuI) (x:qp):Uc zJ:=(lpO (q7r A B) (x.c_.L_,x.c_.L_.len,0,x)).bind fun a=>elim (fun b=>some b) (fun b=>some (0,0)) a
def q22:zdR:=qc9 q4z q3j
theorem qfc:@Eq zdR znF.F q22:=by delta q22;rw [<-qje,<-qhm];kernel_rfl
def qdi (x:Int):GG:=some (decide (x=3))
def qa8:zS:=qdi
theorem qga:@Eq zS znG.F qa8:=by kernel_rfl
def qbc (A:zif) (B:zdR) (C:zS) (D:zS) (x:Unit):GG:=(A (lit [116,121,112,101,32,114,99,32,99,111,117,110,116,101,100,32,110,32,123,32,110,32,125,59,32,102,110,32,109,107,40,41,32,45,62,32,111,119,110,32,114,99,32,123,32,125],lit [102,110,32,109,97,105,110,40,41,32,123,32,118,32,61,32,109,107,40,41,59,32,102,111,114,107,32,119,40,118,41,59,32,125,32,102,110,32,119,40,118,58,32,111,119,110,32,114,99,41,32,123,32,125])).bind fun a=>if (!a.1)=true then some false else (zb a.2.1 0).bind fun b=>(zb a.2.1 0).bind fun c=>(B c).bind fun d=>(if decide (d.2=54)=true then if decide (d.1=22)=true then (C 3).bind fun e=>if e=true then (C 4).bind fun i=>if (!i)=true then (D 3).bind fun j=>if j=true then (D 1).bind fun l=>some !l else some false else some false else some false else some false else some false).bind fun e=>some e
def q1g:zf9:=qbc q1j q22 q5u qa8
theorem qbx:@Eq zf9 zsq.F q1g:=by delta q1g;rw [<-qbw,<-qfc,<-qfb,<-qga];kernel_rfl
def qb6 (x:Int):GG:=(if decide (x=0)=true then some true else if decide (x=1)=true then some true else some (decide (x=3))).bind fun a=>some a
def q26:zS:=qb6
def q3w (A:zif) (B:zf9) (C:zdR):zn2->Uc (Step zn2 zyh):=fun a=>if decide (a.2.2.2.2.2.2.1 < a.2.2.2.2.2.1)=true then (zb a.2.2.2.2.1 a.2.2.2.2.2.2.1).bind fun b=>(if decide (b.O_=13)=true then (zp 136 a.2.2.2.2.2.2.2.2.2 [b]).bind fun c=>some (a.1,a.2.1,a.2.2.1,a.2.2.2.1,a.2.2.2.2.1,a.2.2.2.2.2.1,a.2.2.2.2.2.2.1,a.2.2.2.2.2.2.2.1,a.2.2.2.2.2.2.2.2.1,c) else some a).bind fun c=>some (Step.next (c.1,c.2.1,c.2.2.1,c.2.2.2.1,c.2.2.2.2.1,c.2.2.2.2.2.1,Ud (c.2.2.2.2.2.2.1+1),c.2.2.2.2.2.2.2)) else some (Step.done (a.1,a.2.1,a.2.2.1,a.2.2.2.1,a.2.2.2.2.2.2.2))
def q3v (A:zif) (B:zf9) (C:zdR):zph->Uc (Step zph (Bool⊕Unit)):=fun a=>if decide (a.2.1 < a.1)=true then (zb a.2.2 a.2.1).bind fun b=>(zb a.2.2 a.2.1).bind fun c=>(C c).bind fun d=>(lpO (q3w A B C) (d.1,d.2,a.1,a.2.1,c.c_.L_,c.c_.L_.len,0,(c.c_.n_,c.c_.P_,c.f_.n_,c.f_.P_,c.f_.V_,c.s_,c.F_,c.Q_),a.2.2,Sl.mk [] false)).bind fun e=>(C (qp.mk (q1d.mk e.2.2.2.2.1.1 e.2.2.2.2.1.2.1 e.2.2.2.2.2.2) (qc.mk e.2.2.2.2.1.2.2.1 e.2.2.2.2.1.2.2.2.1 e.2.2.2.2.1.2.2.2.2.1) e.2.2.2.2.1.2.2.2.2.2.1 e.2.2.2.2.1.2.2.2.2.2.2.1 e.2.2.2.2.1.2.2.2.2.2.2.2)).bind fun i=>(if decide (e.1≠i.1)=true then some (e.2.2.1,e.2.2.2.1,true,e.2.2.2.2.2.1) else if decide (e.2.1≠i.2)=true then some (e.2.2.1,e.2.2.2.1,true,e.2.2.2.2.2.1) else if decide (Sl.len e.2.2.2.2.2.2=0)=true then some (e.2.2.1,e.2.2.2.1,decide (e.2.1≠0),e.2.2.2.2.2.1) else some (e.2.2.1,e.2.2.2.1,false,e.2.2.2.2.2.1)).bind fun j=>if j.2.2.1=true then some (Step.done (inl false)) else some (Step.next (j.1,Ud (j.2.1+1),j.2.2.2)) else some (Step.done (inr ()))
def q79 (A:zif) (B:zf9) (C:zdR) (x:xa):GG:=(A x).bind fun a=>((B ()).bind fun b=>if (!b)=true then some (true,a.2.1) else some (!a.1,a.2.1)).bind fun b=>if b.1=true then (B ()).bind fun c=>some c else (lpO (q3v A B C) (Sl.len b.2,0,b.2)).bind fun d=>elim (fun e=>some e) (fun e=>some true) d
def q7t:xa->GG:=q79 q1j q1g q22
theorem qfj:@Eq ((xa)->Uc Bool) zgK.F q7t:=by delta q7t;rw [<-qbw,<-qbx,<-qfc];kernel_rfl
def q65 (A:zS):ziJ->Uc (Step ziJ ziR):=fun a=>(zb a.1.F_ a.2.2.1).bind fun b=>if decide (a.2.2.2.1 < b.P_)=true then ((zb a.1.F_ a.2.2.1).bind fun c=>(zb c.V_ a.2.2.2.1).bind fun d=>if decide (d.M_≠2)=true then some (inl a) else (zb a.1.Q_ d.t_).bind fun e=>(A e.S_).bind fun i=>if (!i)=true then some (inr (a.2.2.2.2.a_,54)) else some (inl a)).bind fun c=>elim (fun d=>some (Step.next (d.1,d.2.1,d.2.2.1,Ud (d.2.2.2.1+1),d.2.2.2.2))) (fun d=>some (Step.done (inl d))) c else some (Step.done (inr (a.1,a.2.1)))
def q66 (A:zS):zpd->Uc (Step zpd ziR):=fun a=>if decide (a.2.2.1 < a.1.F_.len)=true then (zb a.1.F_ a.2.2.1).bind fun b=>if decide (b.n_≠a.2.2.2.Y_)=true then some (Step.next (a.1,a.2.1,Ud (a.2.2.1+1),a.2.2.2)) else (lpO (q65 A) (a.1,a.2.1,a.2.2.1,0,a.2.2.2)).bind fun c=>elim (fun d=>some (Step.done (inl d))) (fun d=>some (Step.done (inr d))) c else some (Step.done (inr (a.1,a.2.1)))
def q67 (A:zS):qr×Int->Uc (Step (qr×Int) yI):=fun a=>if decide (a.2 < a.1.c_.L_.len)=true then ((zb a.1.c_.L_ a.2).bind fun b=>if decide (b.O_≠13)=true then some (inl a) else (lpO (q66 A) (a.1,a.2,0,b)).bind fun c=>elim (fun d=>some (inr d)) (fun d=>some (inl d)) c).bind fun b=>elim (fun c=>some (Step.next (c.1,Ud (c.2+1)))) (fun c=>some (Step.done (inl c))) b else some (Step.done (inr ()))
def qb7 (A:zS) (x:qr):Uc zJ:=(lpO (q67 A) (x,0)).bind fun a=>elim (fun b=>some b) (fun b=>some (0,0)) a
def q46:qr->Uc zJ:=qb7 q26
end
end Go.Px
