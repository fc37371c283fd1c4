/- Part S1: PxSm. -/
import Derived.Test.YtpcipfnohfefhaaGreatDoorCh
set_option linter.unusedVariables false
set_option linter.unusedSimpArgs false
namespace Go.Px
open Sum (inl inr elim)
open Go.Proofs
set_option maxRecDepth 100000
set_option maxHeartbeats 4000000
noncomputable section
abbrev kg(a:q7):=q7.mk a.k_ a.T_ a.n_ a.a_ a.K_
abbrev kr(a:q6):=q6.mk a.k_ a.T_ a.n_ a.a_ a.K_
abbrev zY:=Int×Int
abbrev zP:=G0×zY
abbrev HV:=Int×zP
abbrev XB:=q8×HV×HV
abbrev HX:=Sl q7
abbrev YY:=q8×HV×HV×HX
abbrev tA0:=zY×XB⊕YY⊕XB
abbrev HR:=Int×Int×G0×G0×G0×Int×G0×Int×Int×Bool
abbrev zno:=HR×Sl ql
abbrev tA1:=HR×zno
abbrev Gg:=Sl qa
abbrev HW:=zP×Sl qp×Sl qr
abbrev znx:=Gg×q7×HX×HX×HW
abbrev zai:=zY×HW⊕HW
abbrev tA2:=znx->G3 zai
abbrev Gb:=Sl qc
abbrev Ge:=Sl qk×Sl qq
abbrev Gc:=Sl q6
abbrev HZ:=Int×Int×Gb×zP×Gc×Gc×zP×Sl Int×Ge
abbrev tA4:=Int×Int×Gb×zP×Ge⊕HZ
abbrev tA5:=HR×HR
abbrev HY:=Int×Int×zY
abbrev Gq:=Sl q9
abbrev zkl:=HY×Gq×HV×HV
abbrev tA6:=HY×Gq×HV×Gc⊕zkl
abbrev HT:=G0×zP
abbrev Gm:=Int×Int×HT
abbrev Gi:=Int×Int×q6×HT×HT×q6×qh×Sl qh
abbrev tA7:=Gm⊕Gb×Gi
abbrev Gs:=Sl qb
abbrev HS:=(Sl qd×Gg×zY)×Gs
abbrev znz:=HX×(Int×zY)×HS
abbrev zK:=zY×HS⊕HS
abbrev Gk:=G3 zK
abbrev tA8:=znz->Gk
abbrev znG:=q7×HX×HW
abbrev tA9:=znG->G3 zai
abbrev Gl:=Int×Int×q6×HT×HT×q6×Sl qh
abbrev zv3:=Gm⊕Gb×Gl
abbrev zhO:=Bool×Int×HS
abbrev znD:=q7×zhO
abbrev zrR:=znD->Gk
abbrev Gu:=Int×Int×Gb×zP×Sl qk
abbrev Gh:=Int×Gb×zP×Gc×Gc×q6×zP×q6×Sl qk
abbrev zv4:=Gu⊕Gh
abbrev znL:=G0×HS
abbrev Wt:=zY×HS⊕qf×HS
abbrev zv5:=znL->G3 Wt
abbrev znI:=G0×qf×HS
abbrev zrS:=znI->Gk
abbrev Gt:=Sl qd×Gg×Int
abbrev HU:=Gt×Gs
abbrev znX:=q7×HU
abbrev Zc:=G0×Int
abbrev zkj:=zY×HU⊕Zc×Gt×Gs×Sl qf
abbrev zrT:=znX->G3 zkj
abbrev Gw:=Int×q7×HT×HT×Sl qf
abbrev zv6:=Gm⊕Gg×Gw
abbrev Gx:=Int×q6×HT×HT×Sl qh
abbrev zv7:=Gm⊕Gb×Gx
abbrev Wr:=zhO->Gk
abbrev znP:=q7×qf×HS
abbrev zeA:=znP->Gk
abbrev zds:=q7×HS
abbrev zne:=zds->G3 Wt
abbrev znn:=qf×HS⊕zY×HS
abbrev zrU:=zds->G3 znn
abbrev zsY:=HX×HS
abbrev zbN:=zsY->Gk
abbrev Gn:=Gb×zP×Gc×Gc×q6×zP×Sl qk
abbrev zv9:=Gu⊕Gn
abbrev zwa:=Int×Int×Gb×zP×Ge⊕Gb×zP×zP×Ge
abbrev zhS:=Bool×Int×HU
abbrev znK:=q7×zhS
abbrev xD:=zY×HU⊕HU
abbrev zki:=znK->G3 xD
abbrev Gd:=Int×Gt×Gs×q7×Zc×Zc×Sl qf
abbrev zwb:=zY×HU⊕Gd
abbrev zrW:=zhS->G3 xD
abbrev zg:=zY×q8
abbrev zrX:=zg⊕q8×HV×HX⊕XB
abbrev YZ:=HV×Int×Int×HX
abbrev VP:=zY×YZ
abbrev zwe:=VP->G3 YZ
abbrev zrY:=Gb×Int×Gi
abbrev zr0:=Gg×Int×HX×Int×Gw
abbrev zB:=HY×Gq
abbrev yV:=Int×zB
abbrev VW:=HY×Gq×Gc
abbrev ZA:=HV×VW
abbrev zng:=yV->G3 ZA
abbrev zr1:=Gb×Int×Gl
abbrev Yj:=zB->G3 ZA
abbrev Gf:=Sl G0
abbrev zr2:=Int×HY×Gq×HV×HV×Gf
abbrev znh:=Int×HZ
abbrev zwg:=VP⊕YZ
abbrev zr3:=Int×Int×Int×Gb×zP×Gc×Gc×zP×Sl qq×Ge
abbrev zfO:=q7×zY
abbrev Gy:=zP×Sl qp×Sl qr×zfO
abbrev zwh:=zY×HW⊕Gy
abbrev wR:=HX×Int×Int×(Sl qd×Gg×zY)×Gs×qf
abbrev zcY:=zY×HS⊕wR
abbrev zwi:=YZ->G3 YZ
abbrev xm:=HY×Gq×HV×HV×Gc
abbrev Vm:=Bool×xm
abbrev zni:=Int×HX×Int×Gd
abbrev zwj:=Int×Bool×Sl qi×q7×HR
abbrev Gz:=q7×zP×HX×zP×Sl qp
abbrev znj:=Gg×HX×HX×Int×Int×Gz
abbrev yU:=HV×zB
abbrev Ws:=zB->G3 yU
abbrev znk:=Gb×Int×Gx
abbrev zr5:=Int×Int×Int×Int×Int×qw×q7×Gs×zP×G0×Sl Zc
abbrev zeB:=q6->G3 zno
abbrev zeC:=HV×HY×HV×Gq×Gc
abbrev znl:=Int×Gh
abbrev zwl:=zg⊕q8×HV×HX⊕q8×q7×HV
abbrev zkk:=Int×Int×Gb×zP×Gc×Gc×zP×Ge
abbrev WZ:=Sl qi×HR×Sl qt
abbrev zwm:=zY⊕Gg×HX×Gz
abbrev zr7:=zg⊕q8×q7⊕XB
abbrev zbO:=zg⊕YY
abbrev zr8:=HX×HX×Int×Int×zP×HW
abbrev Y0:=G0×zB
abbrev zS:=Bool×zB
abbrev Z6:=Y0->G3 zS
abbrev znm:=Int×Gn
abbrev zwo:=Sl qi×HR
abbrev zhM:=Bool×XB
abbrev znp:=G0×Int×zhM
abbrev XI:=Y0->G3 zB
abbrev zkm:=HX×HX×Int×Int×Gy
abbrev Zq:=q6×zB
abbrev zwq:=Zq->G3 Zq
abbrev Gv:=Sl qg×(Gg×Gb)×HX×Gc
abbrev znq:=Int×Int×HX×Int×Int×Sl qd×q6×Gv
abbrev zsb:=zB->G3 VW
abbrev Gp:=Int×q8
abbrev yn:=q8×HX
abbrev Zf:=zg⊕HV×yn
abbrev znr:=Gp->G3 Zf
abbrev Vn:=yV->G3 zB
abbrev zns:=zB->G3 yV
abbrev zsc:=HX×Int×Int×wR
abbrev W0:=zB->G3 Zq
abbrev zsC:=zY⊕zP×HW
abbrev zsD:=Y0⊕zB
abbrev zhL:=zY×zfO⊕q7×Int×Int×HU
abbrev ZK:=q8->G3 Zf
abbrev zsI:=HV×yn⊕zg
abbrev znu:=q8->G3 zsI
abbrev znv:=(Int×zY)×HX×Int×Int×HS
abbrev zfC:=zY⊕HW
abbrev zsE:=Gg×q7->G3 zfC
abbrev ZZ:=zg⊕HV×q8
abbrev XX:=q8->G3 ZZ
abbrev VO:=HX×Int×Int×q7×Int×Int×HU
abbrev zsX:=G0×G0×Gf×Sl qi
abbrev zfB:=HX×Int×Int×zsX
abbrev zny:=Sl qf×HX×Int×Int×HS
abbrev VQ:=zg⊕q8×q7⊕q8×HV
abbrev Y3:=Int×Int×Gg
abbrev zsJ:=zY×q7×Y3⊕q7×Y3
abbrev zh3:=zY×Y3
abbrev zsK:=zh3->G3 Y3
abbrev yA:=Int×Int×Gs
abbrev zh7:=zY×yA
abbrev znA:=zh7->G3 yA
abbrev zsL:=Int×Int×Sl qd×Gv
abbrev zsM:=Bool⊕Int×Int×qw×q7×Gs×zP
abbrev zsO:=zg⊕q8×q7×HV
abbrev zdo:=HV×Int×Int×yn
abbrev WE:=G0×G0
abbrev znC:=G0×(G0×WE)×Int
abbrev znE:=Int×Int×Int×Int×Int×q6×Sl qm×q6×Sl qm
abbrev zsQ:=Int×q6×G0×G0×Gf
abbrev znF:=Int×zsQ
abbrev znH:=Int×HY×Gq×Gf
abbrev zhN:=HX×Sl qf×HS
abbrev VZ:=G0×HY
abbrev zsP:=VZ->G3 (Sl qr)
abbrev zdp:=VZ->G3 (Sl qq)
abbrev wT:=G0×q8
abbrev Z4:=zg⊕q8
abbrev x3:=wT->G3 Z4
abbrev vi:=zg⊕Gp
abbrev zhP:=Gp->G3 vi
abbrev zta:=wT⊕zg
abbrev znJ:=q8->G3 zta
abbrev zod:=q7×Sl qd×Gg
abbrev zhQ:=zod->G3 yA
abbrev zfJ:=zg⊕qn×q8
abbrev zsR:=Gp->G3 zfJ
abbrev znM:=(G0×WE)×Gp
abbrev zsS:=Y3->G3 Y3
abbrev znN:=yA->G3 yA
abbrev ZL:=zg⊕q7×q8
abbrev znO:=q7×q8->G3 ZL
abbrev XC:=HX×G0
abbrev yt:=Int×G0
abbrev zsV:=XC->G3 yt
abbrev VT:=G0×Int×Int×Int×Bool×q9×q9
abbrev znQ:=HY×Gq×q6×Gc
abbrev XY:=q6×Gb
abbrev zih:=qc×Int×Int×Gb
abbrev zsW:=XY->G3 zih
abbrev yH:=zg⊕yn
abbrev YI:=q8->G3 yH
abbrev ziq:=Bool×q7×Int
abbrev YK:=zY⊕Unit
abbrev zdq:=ziq->G3 YK
abbrev zdr:=Int×yV
abbrev zis:=qa×G0
abbrev Z0:=Bool×G0
abbrev zsZ:=zis->G3 Z0
abbrev V3:=q7×G0
abbrev zhR:=V3->G3 Z0
abbrev zfE:=HX×Int×Int×q7×Y3
abbrev ziv:=qf×G0
abbrev zs0:=ziv->G3 Z0
abbrev zhT:=zP->G3 (qn×Int)
abbrev zn2:=q7×q8⊕zg
abbrev zhU:=q8->G3 zn2
abbrev YJ:=q8->G3 ZL
abbrev x5:=Sl qf×qf
abbrev V2:=Bool×x5
abbrev zhW:=x5->G3 V2
abbrev vo:=q7×Gg
abbrev zim:=Int×Int×Sl qd
abbrev zs2:=vo->G3 zim
abbrev zin:=Int×Int×Sl qg
abbrev zs3:=XY->G3 zin
abbrev zs4:=Int×Int×Int×Int×q6×Sl qm×q6
abbrev zoe:=Int×Int×Sl qn
abbrev zhX:=G0->G3 zoe
abbrev WF:=Int×x5
abbrev zs5:=x5->G3 WF
abbrev zhY:=G0->G3 (Int×Int×Gq)
abbrev zfM:=Int×Gs×q7
abbrev znR:=Gs×q7->G3 zfM
abbrev zid:=Gf×G0
abbrev Ga:=G3 Int
abbrev zs7:=zid->Ga
abbrev VX:=Gp->G3 zg
abbrev znS:=Gf×zP
abbrev zit:=qd×zY
abbrev zs8:=vo->G3 zit
abbrev ziu:=qg×zY
abbrev zs9:=XY->G3 ziu
abbrev znU:=Int×Int×Int×q6×Sl qm×Sl qm
abbrev Gj:=G3 Bool
abbrev znV:=WE->Gj
abbrev zF:=Bool×q8
abbrev Zr:=wT->G3 zF
abbrev zn8:=qa×G0×HX
abbrev zdu:=zn8->Ga
abbrev znW:=Zc->G3 (q9×Int)
abbrev VY:=G0->G3 zfO
abbrev zh0:=G0->G3 (q6×zY)
abbrev zix:=HX×HX
abbrev zfF:=HX×Int×Int×zix
abbrev zh2:=Gg×HX×zim
abbrev vn:=Int×Sl qi
abbrev zfG:=qi×Sl qi->G3 vn
abbrev znY:=XC->Gj
abbrev zfH:=G0×Int×Int×q9×q9
abbrev zfP:=qh×Bool
abbrev zh4:=XY->G3 zfP
abbrev zh5:=q7->G3 Y3
abbrev zh6:=q6->G3 (Int×Int×Gb)
abbrev zbU:=Gg×G0
abbrev zbS:=zbU->Ga
abbrev ztb:=vo->G3 (qf×Int)
abbrev zik:=Gb×G0
abbrev zbT:=zik->Ga
abbrev zil:=Gc×G0
abbrev zdv:=zil->Ga
abbrev zdw:=G0->G3 (qw×Bool)
abbrev ztd:=zY⊕G0×Sl qn
abbrev znZ:=Gg×Int×yt
abbrev zdx:=HX×Int×yt
abbrev zh8:=WF⊕x5
abbrev zte:=zY⊕G0×Gq
abbrev zn0:=Sl qf×Int×yt
abbrev ztf:=zfM⊕Gs×q7
abbrev yz:=q7×Sl qi->G3 (Sl qi)
abbrev wS:=Zc->Ga
abbrev zh9:=G0->G3 G0
abbrev wU:=Bool×qf
abbrev zia:=qf×qf->G3 wU
abbrev zfQ:=Bool×q7
abbrev ztg:=qd×q7->G3 zfQ
abbrev V1:=yt⊕G0
abbrev zdz:=q7->G3 zix
abbrev zfI:=qb×G0->Ga
abbrev zib:=Int×Int×qw×q7×Gs
abbrev zn1:=q6×Int->G3 (Sl qm)
abbrev zic:=zg⊕q8×q7
abbrev zdB:=q6×Int->G3 Gc
abbrev zn3:=HX×Int×Int×Sl qt
abbrev zn4:=HX×Int×vn
abbrev zie:=Gb×Int×q6×Sl qg
abbrev WD:=G0->Gj
abbrev zfK:=G0×Int×Sl qn
abbrev zn5:=Int×HX×zY
abbrev vj:=G0×Int×Gq
abbrev zn6:=Gb×Zc
abbrev zn7:=Gc×Zc
abbrev zdD:=Int×WF
abbrev zig:=Int×Int×q6×Gc
abbrev zn9:=Sl qd×Int×Int×q7
abbrev zoa:=Int×zfM
abbrev zdE:=Int×Int×q6×Sl qm
abbrev Y2:=q8->G3 (qn×q8)
abbrev zob:=q7×Int->G3 qt
abbrev zij:=q7->G3 (Sl qt)
abbrev zoc:=Gc×Int×Sl ql
abbrev zfL:=Unit->Gj
abbrev Zg:=Int->Gj
abbrev zio:=Sl qf×G0
abbrev zip:=Int×XY
abbrev XD:=q7->Ga
abbrev XF:=q6->Ga
abbrev zir:=q7×q7×Sl qi
abbrev zfN:=q7->G3 q1h
abbrev zdF:=Int×Gp
abbrev zbV:=q7->G3 qt
abbrev ziw:=q7->G3 q7
abbrev vm:=q6->G3 ql
abbrev zdG:=Int⊕Unit
abbrev zdH:=qf×Gg
abbrev zgC:=zbN
abbrev wQ:=Yj
abbrev zdA:=yz
abbrev zdC:=zn1
abbrev Zs:=G0
theorem eqT {α:Type}{a b c d:α}(h:a=b) (k:b=c) (l:c=d):a=d:=h.trans (k.trans l)
def qe9 (x:Int):Gj:=some (decide (x≠10))
def qa7:Zg:=qe9
theorem ql2:@Eq Zg P0.F qa7:=by kernel_rfl
def qjz (A:Zg):Zc->G3 (Step Zc Int):=fun a=>(if decide (a.2 < (↑(ByteArray.size a.1):Int))=true then (Zb a.1 a.2).bind fun b=>(A b).bind fun c=>some (a.1,a.2,c) else some (a.1,a.2,false)).bind fun b=>if b.2.2=true then some (Step.next (b.1,G4 (b.2.1+1))) else some (Step.done b.2.1)
def qfp (A:Zg) (x:Zc):Ga:=(lpO (qjz A) x).bind fun a=>some a
def qa1:Zc->Ga:=qfp qa7
theorem qkh:@Eq ((Zc)->G3 Int) P1.F qa1:=by delta qa1;rw [<-ql2];kernel_rfl
def qgi (x:Int):Gj:=(if decide (48<=x)=true then some (decide (x<=57)) else some false).bind fun a=>some a
def q8m:Zg:=qgi
theorem qh1:@Eq Zg P2.F q8m:=by kernel_rfl
def q56 (A:Zg):Zc->G3 (Step Zc Int):=fun a=>(if decide (a.2 < (↑(ByteArray.size a.1):Int))=true then (Zb a.1 a.2).bind fun b=>(A b).bind fun c=>some (a.1,a.2,c) else some (a.1,a.2,false)).bind fun b=>if b.2.2=true then some (Step.next (b.1,G4 (b.2.1+1))) else some (Step.done b.2.1)
def qgm (A:Zg) (x:Zc):Ga:=(lpO (q56 A) x).bind fun a=>some a
def qbl:Zc->Ga:=qgm q8m
theorem ql0:@Eq ((Zc)->G3 Int) P3.F qbl:=by delta qbl;rw [<-qh1];kernel_rfl
def qbp:=XN
theorem qk0:F4=qbp:=rfl
def qg0 (x:Int):Gj:=(if decide (97<=x)=true then if decide (x<=122)=true then some true else some (decide (x=95)) else some (decide (x=95))).bind fun a=>some a
def q70:Zg:=qg0
theorem qgn:@Eq Zg P5.F q70:=by kernel_rfl
def qg2 (A:zP->G3 (Int⊕Int)) (B:Zg) (x:zP):G3 (qn×Int):=(ZB x.1 x.2.1 x.2.2).bind fun a=>((A (a,10,64)).bind fun b=>elim (fun c=>some (inl (x.1,x.2.1,x.2.2,a,c,qn.mk 0 (lit []) 0 0))) (fun c=>some (inr (x.1,x.2.1,x.2.2,a,c,qn.mk 0 (lit []) 0 0))) b).bind fun b=>elim (fun c=>if decide (1099511627776 < c.2.2.2.2.1)=true then some (qn.mk 0 (lit []) 0 0,12) else if decide (1 < (↑(ByteArray.size c.2.2.2.1):Int))=true then (Zb c.2.2.2.1 0).bind fun d=>if decide (d=48)=true then some (qn.mk 0 (lit []) 0 0,12) else if decide (c.2.2.1 < (↑(ByteArray.size c.1):Int))=true then (Zb c.1 c.2.2.1).bind fun e=>(B e).bind fun i=>if i=true then some (qn.mk 0 (lit []) 0 0,12) else some (qn.mk 3 c.2.2.2.1 c.2.2.2.2.1 c.2.1,0) else some (qn.mk 3 c.2.2.2.1 c.2.2.2.2.1 c.2.1,0) else if decide (c.2.2.1 < (↑(ByteArray.size c.1):Int))=true then (Zb c.1 c.2.2.1).bind fun j=>(B j).bind fun l=>if l=true then some (qn.mk 0 (lit []) 0 0,12) else some (qn.mk 3 c.2.2.2.1 c.2.2.2.2.1 c.2.1,0) else some (qn.mk 3 c.2.2.2.1 c.2.2.2.2.1 c.2.1,0)) (fun c=>some (qn.mk 0 (lit []) 0 0,12)) b
def qbo:zP->G3 (qn×Int):=qg2 qbp q70
theorem qlb:@Eq ((zP)->G3 (qn×Int)) P6.F qbo:=by delta qbo;rw [<-qk0,<-qgn];kernel_rfl
def qg1 (A:Zg) (B:Zg) (x:Int):Gj:=((A x).bind fun a=>if a=true then some true else (B x).bind fun b=>some b).bind fun a=>some a
def qbn:Zg:=qg1 q70 q8m
theorem qlc:@Eq Zg P7.F qbn:=by delta qbn;rw [<-qgn,<-qh1];kernel_rfl
def qki (A:Zg):Zc->G3 (Step Zc Int):=fun a=>(if decide (a.2 < (↑(ByteArray.size a.1):Int))=true then (Zb a.1 a.2).bind fun b=>(A b).bind fun c=>some (a.1,a.2,c) else some (a.1,a.2,false)).bind fun b=>if b.2.2=true then some (Step.next (b.1,G4 (b.2.1+1))) else some (Step.done b.2.1)
def qg9 (A:Zg) (x:Zc):Ga:=(lpO (qki A) x).bind fun a=>some a
def qan:Zc->Ga:=qg9 qbn
theorem qkw:@Eq ((Zc)->G3 Int) P8.F qan:=by delta qan;rw [<-qlc];kernel_rfl
def qgj (x:Zs):Gj:=(if decide (x=lit [116,121,112,101])=true then some (decide (x=lit [116,121,112,101])) else (if decide (x=lit [102,110])=true then some (decide (x=lit [102,110])) else (if decide (x=lit [111,119,110])=true then some (decide (x=lit [111,119,110])) else (if decide (x=lit [99,101,108,108])=true then some (decide (x=lit [99,101,108,108])) else (if decide (x=lit [99,111,117,110,116,101,100])=true then some (decide (x=lit [99,111,117,110,116,101,100])) else (if decide (x=lit [108,111,99,107])=true then some (decide (x=lit [108,111,99,107])) else (if decide (x=lit [103,117,97,114,100])=true then some (decide (x=lit [103,117,97,114,100])) else (if decide (x=lit [119,104,101,114,101])=true then some (decide (x=lit [119,104,101,114,101])) else (if decide (x=lit [105,110,116])=true then some (decide (x=lit [105,110,116])) else (if decide (x=lit [109,117,116])=true then some (decide (x=lit [109,117,116])) else (if decide (x=lit [102,114,101,101])=true then some (decide (x=lit [102,114,101,101])) else (if decide (x=lit [117,110,108,111,99,107])=true then some (decide (x=lit [117,110,108,111,99,107])) else (if decide (x=lit [105,102])=true then some (decide (x=lit [105,102])) else (if decide (x=lit [101,108,115,101])=true then some (decide (x=lit [101,108,115,101])) else (if decide (x=lit [119,104,105,108,101])=true then some (decide (x=lit [119,104,105,108,101])) else (if decide (x=lit [114,101,116,117,114,110])=true then some (decide (x=lit [114,101,116,117,114,110])) else (if decide (x=lit [97,98,111,114,116])=true then some (decide (x=lit [97,98,111,114,116])) else (if decide (x=lit [102,111,114,107])=true then some (decide (x=lit [102,111,114,107])) else (if decide (x=lit [110,101,119])=true then some (decide (x=lit [110,101,119])) else some (decide (x=lit [97,114,114,97,121]))).bind fun a=>some a).bind fun a=>some a).bind fun a=>some a).bind fun a=>some a).bind fun a=>some a).bind fun a=>some a).bind fun a=>some a).bind fun a=>some a).bind fun a=>some a).bind fun a=>some a).bind fun a=>some a).bind fun a=>some a).bind fun a=>some a).bind fun a=>some a).bind fun a=>some a).bind fun a=>some a).bind fun a=>some a).bind fun a=>some a).bind fun a=>if a=true then some true else some false
def qca:WD:=qgj
theorem qli:@Eq WD P9.F qca:=by kernel_rfl
def qh0 (A:WD) (x:zP):G3 (qn×Int):=(ZB x.1 x.2.1 x.2.2).bind fun a=>if decide (16 < (↑a.size:Int))=true then some (qn.mk 0 (lit []) 0 0,13) else (A a).bind fun b=>(if b=true then some (qn.mk 0 (lit []) 0 0,qn.mk 2 a 0 x.2.1) else some (qn.mk 0 (lit []) 0 0,qn.mk 1 a 0 x.2.1)).bind fun c=>some (c.2,0)
def qea:zP->G3 (qn×Int):=qh0 qca
theorem qlm:@Eq ((zP)->G3 (qn×Int)) P10.F qea:=by delta qea;rw [<-qli];kernel_rfl
def q3k (x:WE):Gj:=(if decide ((↑(ByteArray.size x.2):Int)<=(↑(ByteArray.size x.1):Int))=true then (ZB x.1 0 (↑(ByteArray.size x.2):Int)).bind fun a=>some (decide (a=x.2)) else some false).bind fun a=>some a
def q8u:WE->Gj:=q3k
theorem qd5:@Eq ((WE)->G3 Bool) P11.F q8u:=by kernel_rfl
def qed (A:znV) (x:WE):Gj:=(A x).bind fun a=>some a
def q6a:WE->Gj:=qed q8u
theorem qjb:@Eq ((WE)->G3 Bool) P12.F q6a:=by delta q6a;rw [<-qd5];kernel_rfl
def q6b:=wE
theorem qjc:F13=q6b:=rfl
def q9m (A:znV) (B:wS):znC->G3 (Step znC (G0⊕G0)):=fun a=>if decide (a.2.2 < 3)=true then (WS [a.2.1.1,a.2.1.2.1,a.2.1.2.2] a.2.2).bind fun b=>(A (a.1,b)).bind fun c=>if c=true then some (Step.done (inl b)) else some (Step.next (a.1,a.2.1,G4 (a.2.2+1))) else some (Step.done (inr a.1))
def qkt (A:znV) (B:wS) (x:Zs):G3 G0:=(lpO (q9m A B) (x,(lit [45,62],lit [60,61],lit [61,61]),0)).bind fun a=>elim (fun b=>some b) (fun b=>(Zb b 0).bind fun c=>(B (lit [123,125,40,41,91,93,44,58,59,61,43,45,38,60],c)).bind fun d=>if decide (0<=d)=true then (ZB b 0 1).bind fun e=>some e else some (lit [])) a
def qge:zh9:=qkt q6a q6b
theorem qln:@Eq zh9 P14.F qge:=by delta qge;rw [<-qjb,<-qjc];kernel_rfl
def qcx (A:wS) (B:Zg) (C:wS) (D:zhT) (E:Zg) (G:wS) (H:zhT) (I:zh9):zfK->G3 (Step zfK ztd):=fun a=>if decide (a.2.1 < (↑(ByteArray.size a.1):Int))=true then ((Zb a.1 a.2.1).bind fun b=>(if decide (b=32)=true then some (a.1,a.2.1,0,b,true,a.2.2,qn.mk 0 (lit []) 0 0) else some (a.1,a.2.1,0,b,decide (b=10),a.2.2,qn.mk 0 (lit []) 0 0)).bind fun c=>(if c.2.2.2.2.1=true then some (inl (c.1,G4 (c.2.1+1),c.2.2.2.2.2.1)) else if decide (c.2.2.2.1=35)=true then (A (c.1,c.2.1)).bind fun d=>some (inl (c.1,d,c.2.2.2.2.2.1)) else (B c.2.2.2.1).bind fun e=>(if e=true then (C (c.1,c.2.1)).bind fun i=>(D (c.1,c.2.1,i)).bind fun j=>some (c.1,c.2.1,j.2,c.2.2.2.2.2.1,j.1) else (E c.2.2.2.1).bind fun l=>(if l=true then (G (c.1,c.2.1)).bind fun m=>(H (c.1,c.2.1,m)).bind fun n=>some (c.1,c.2.1,n.2,c.2.2.2.2.2.1,n.1) else (ZB c.1 c.2.1 (↑(ByteArray.size c.1):Int)).bind fun o=>(I o).bind fun p=>(if decide (p=lit [])=true then some (c.1,c.2.1,11,c.2.2.2.2.2.1,qn.mk 4 p 0 c.2.1) else some (c.1,c.2.1,c.2.2.1,c.2.2.2.2.2.1,qn.mk 4 p 0 c.2.1)).bind fun r=>some r).bind fun m=>some m).bind fun i=>some (inr i)).bind fun d=>elim (fun e=>some (inl e)) (fun e=>if decide (e.2.2.1≠0)=true then some (inr (e.2.1,e.2.2.1)) else (zp 40 e.2.2.2.1 [e.2.2.2.2]).bind fun i=>some (inl (e.1,G4 (e.2.1+(↑e.2.2.2.2.T_.size:Int)),i))) d).bind fun b=>elim (fun c=>some (Step.next c)) (fun c=>some (Step.done (inl c))) b else some (Step.done (inr (a.1,a.2.2)))
def qg3 (A:wS) (B:Zg) (C:wS) (D:zhT) (E:Zg) (G:wS) (H:zhT) (I:zh9) (x:Zs):G3 zoe:=(if decide (16384 < (↑x.size:Int))=true then some (0,10,Sl.mk [] false) else (lpO (qcx A B C D E G H I) (x,0,Sl.mk [] false)).bind fun a=>elim (fun b=>some (b.1,b.2,Sl.mk [] false)) (fun b=>(zp 40 b.2 [qn.mk 0 (lit []) 0 (↑(ByteArray.size b.1):Int)]).bind fun c=>some (0,0,c)) a).bind fun a=>some a
def qa8:zhX:=qg3 qa1 q8m qbl qbo q70 qan qea qge
theorem qld:@Eq zhX P15.F qa8:=by delta qa8;rw [<-qkh,<-qh1,<-ql0,<-qlb,<-qgn,<-qkw,<-qlm,<-qln];kernel_rfl
def qd8 (x:q8):G3 (qn×q8):=(zd x.Q_ 0).bind fun a=>some (a,x)
def q10:Y2:=qd8
theorem q2a:@Eq Y2 P16.F q10:=by kernel_rfl
def qf7 (A:Y2) (x:wT):G3 zF:=(A x.2).bind fun a=>(if decide (a.1.k_=2)=true then some (decide (a.1.T_=x.1),a.2) else if decide (a.1.k_=4)=true then some (decide (a.1.T_=x.1),a.2) else some (false,a.2)).bind fun b=>some b
def q21:wT->G3 zF:=qf7 q10
theorem q5n:@Eq ((wT)->G3 zF) P17.F q21:=by delta q21;rw [<-q2a];kernel_rfl
def qee (A:Zr) (x:wT):G3 zF:=(A x).bind fun a=>if (!a.1)=true then some (false,a.2) else (Zv a.2.Q_ 1 a.2.Q_.len).bind fun b=>some (true,q8.mk b a.2.D_)
def qx:wT->G3 zF:=qee q21
theorem q1b:@Eq ((wT)->G3 zF) P18.F qx:=by delta qx;rw [<-q5n];kernel_rfl
def qd9 (A:Y2) (x:Gp):G3 zg:=(A x.2).bind fun a=>some ((a.1.a_,x.1),a.2)
def q1k:Gp->G3 zg:=qd9 q10
theorem q4q:@Eq ((Int×q8)->G3 zg) P19.F q1k:=by delta q1k;rw [<-q2a];kernel_rfl
def qda (A:Y2) (B:VX) (x:Gp):G3 zfJ:=(A x.2).bind fun a=>if decide (a.1.k_≠x.1)=true then (B (20,a.2)).bind fun b=>some (inl b) else (Zv a.2.Q_ 1 a.2.Q_.len).bind fun c=>some (inr (a.1,q8.mk c a.2.D_))
def q4f:Gp->G3 zfJ:=qda q10 q1k
theorem qef:@Eq ((Int×q8)->G3 zfJ) P20.F q4f:=by delta q4f;rw [<-q2a,<-q4q];kernel_rfl
def qdb (A:zsR) (x:q8):G3 ZZ:=(A (1,x)).bind fun a=>elim (fun b=>some (inl b)) (fun b=>some (inr ((5,b.1.T_,0,b.1.a_),b.2))) a
def q16:XX:=qdb q4f
theorem q2j:@Eq XX P21.F q16:=by delta q16;rw [<-qef];kernel_rfl
def qdc (A:Zr) (B:VX) (x:wT):G3 Z4:=(A x).bind fun a=>if (!a.1)=true then (B (20,a.2)).bind fun b=>some (inl b) else some (inr a.2)
def q13:wT->G3 Z4:=qdc qx q1k
theorem q20:@Eq ((wT)->G3 Z4) P22.F q13:=by delta q13;rw [<-q1b,<-q4q];kernel_rfl
def qdd (A:Y2) (B:Zr) (C:x3) (D:XX) (x:q8):G3 zn2:=(A x).bind fun a=>(A a.2).bind fun b=>(B (lit [105,110,116],b.2)).bind fun c=>if c.1=true then some (inl (q7.mk 8 a.1.T_ 0 b.1.a_ (Sl.mk [] false),c.2)) else (B (lit [111,119,110],c.2)).bind fun d=>(if d.1=true then some (inl (d.2,(0,lit [],0,0),8,a.1.T_,0,b.1.a_)) else (C (lit [38],d.2)).bind fun e=>elim (fun i=>some (inr i)) (fun i=>(B (lit [109,117,116],i)).bind fun j=>(if j.1=true then some (j.2,(0,lit [],0,0),8,lit [38,109,117,116],0,b.1.a_) else some (j.2,(0,lit [],0,0),8,a.1.T_,0,b.1.a_)).bind fun (l:XB)=>some (inl l)) e).bind fun (e:q8×(Int×G0×Int×Int)×Int×G0×Int×Int⊕zY×q8)=>elim (fun i=>(D i.1).bind fun j=>elim (fun l=>some (inr l)) (fun l=>some (inl (q7.mk i.2.2.1 i.2.2.2.1 i.2.2.2.2.1 i.2.2.2.2.2 (Sl.mk [q7.mk l.1.1 l.1.2.1 l.1.2.2.1 l.1.2.2.2 (Sl.mk [] false)] true),l.2))) j) (fun i=>some (inr i)) e
def q89:zhU:=qdd q10 qx q13 q16
theorem qeg:@Eq zhU P23.F q89:=by delta q89;rw [<-q2a,<-q1b,<-q20,<-q2j];kernel_rfl
def qcd (A:XX) (B:x3) (C:zhU) (x:q8):G3 Zf:=(A x).bind fun a=>elim (fun b=>some (inl b)) (fun b=>(B (lit [58],b.2)).bind fun c=>elim (fun d=>some (inl d)) (fun d=>(C d).bind fun e=>elim (fun i=>some (inr ((7,b.1.2),i.2,Sl.mk [kg i.1] true))) (fun i=>some (inl i)) e) c) a
def q7a:ZK:=qcd q16 q13 q89
theorem qhp:@Eq ZK P24.F q7a:=by delta q7a;rw [<-q2j,<-q20,<-qeg];kernel_rfl
def q72 (A:ZK) (B:Zr):yn->G3 (Step yn yH):=fun a=>(B (lit [44],a.1)).bind fun b=>if b.1=true then (A b.2).bind fun c=>elim (fun d=>some (Step.done (inl d))) (fun d=>(zp 64 a.2 [q7.mk d.1.1 d.1.2.1 d.1.2.2.1 d.1.2.2.2 d.2.2]).bind fun e=>some (Step.next (d.2.1,e))) c else some (Step.done (inr (b.2,a.2)))
def qal (A:ZK) (B:Zr) (x:q8):G3 yH:=(A x).bind fun a=>elim (fun b=>some (inl b)) (fun b=>(lpO (q72 A B) (b.2.1,Sl.mk [q7.mk b.1.1 b.1.2.1 b.1.2.2.1 b.1.2.2.2 b.2.2] true)).bind fun c=>elim (fun d=>some (inl d)) (fun d=>some (inr d)) c) a
def q81:YI:=qal q7a qx
theorem qg7:@Eq YI P25.F q81:=by delta q81;rw [<-qhp,<-q1b];kernel_rfl
def qc1 (x:q7×Int):G3 (q7×Int):=some (q7.mk x.1.k_ x.1.T_ x.1.n_ x.2 x.1.K_,x.2)
def q6h:q7×Int->G3 (q7×Int):=qc1
theorem qh2:@Eq ((q7×Int)->G3 (q7×Int)) P26.F q6h:=by kernel_rfl
def qce (A:x3) (x:q7×q8):G3 ZL:=(A (lit [59],x.2)).bind fun a=>elim (fun b=>some (inl b)) (fun b=>some (inr (kg x.1,b))) a
def q58:q7×q8->G3 ZL:=qce q13
theorem qhq:@Eq ((q7×q8)->G3 ZL) P27.F q58:=by delta q58;rw [<-q20];kernel_rfl
def qc2 (A:zsR) (x:Gp):G3 vi:=(A (3,x.2)).bind fun a=>elim (fun b=>some (inl b)) (fun b=>some (inr (G4 (x.1 * b.1.n_),b.2))) a
def q3w:Gp->G3 vi:=qc2 q4f
theorem q6p:@Eq ((Int×q8)->G3 vi) P28.F q3w:=by delta q3w;rw [<-qef];kernel_rfl
def qf8 (A:XX) (B:x3) (C:zhP) (x:Gp):G3 ZZ:=(A x.2).bind fun a=>elim (fun b=>some (inl b)) (fun b=>(B (lit [91],b.2)).bind fun c=>elim (fun d=>some (inl d)) (fun d=>(C (1,d)).bind fun e=>elim (fun i=>some (inl i)) (fun i=>(B (lit [93],i.2)).bind fun j=>elim (fun l=>some (inl l)) (fun l=>some (inr ((x.1,b.1.2.1,i.1,b.1.2.2.2),l))) j) e) c) a
def q98:Gp->G3 ZZ:=qf8 q16 q13 q3w
theorem qk1:@Eq ((Int×q8)->G3 ZZ) P29.F q98:=by delta q98;rw [<-q2j,<-q20,<-q6p];kernel_rfl
def qde (A:Zr) (B:zhP) (x:q7×q8):G3 ZL:=(A (lit [43],x.2)).bind fun a=>(if a.1=true then (B (1,a.2)).bind fun b=>elim (fun c=>some (inl c)) (fun c=>some (inr (c.2,q7.mk x.1.k_ x.1.T_ c.1 x.1.a_ x.1.K_,0,lit [],0,0))) b else (A (lit [45],a.2)).bind fun c=>(if c.1=true then (B (-1,c.2)).bind fun d=>elim (fun e=>some (inl e)) (fun e=>some (inr (e.2,q7.mk x.1.k_ x.1.T_ e.1 x.1.a_ x.1.K_,0,lit [],0,0))) d else some (inr (c.2,kg x.1,0,lit [],0,0))).bind fun (d:zsO)=>elim (fun e=>some (inl e)) (fun e=>some (inr (e.1,kg e.2.1,e.2.2))) d).bind fun (b:zsO)=>elim (fun c=>some (inl c)) (fun c=>some (inr (kg c.2.1,c.1))) b
def q4g:q7×q8->G3 ZL:=qde qx q3w
theorem qeh:@Eq ((q7×q8)->G3 ZL) P30.F q4g:=by delta q4g;rw [<-q1b,<-q6p];kernel_rfl
def qdf (A:Y2) (B:zhP) (C:Zr) (D:XX) (E:znO) (x:q8):G3 ZL:=(A x).bind fun a=>(A a.2).bind fun b=>(if decide (b.1.k_=3)=true then (B (1,b.2)).bind fun c=>elim (fun d=>some (inl d)) (fun d=>some (inr (inl (d.2,5,lit [],d.1,a.1.a_)))) c else (C (lit [45],b.2)).bind fun d=>if d.1=true then (B (-1,d.2)).bind fun e=>elim (fun i=>some (inl i)) (fun i=>some (inr (inl (i.2,5,lit [],i.1,a.1.a_)))) e else some (inr (inr (d.2,0,lit [],0,0)))).bind fun (c:zY×q8⊕q8×Int×G0×Int×Int⊕q8×Int×G0×Int×Int)=>elim (fun d=>some (inl d)) (fun d=>elim (fun e=>some (inr (q7.mk e.2.1 e.2.2.1 e.2.2.2.1 e.2.2.2.2 (Sl.mk [] false),e.1))) (fun e=>((D e.1).bind fun i=>elim (fun j=>some (inl j)) (fun j=>(E (q7.mk j.1.1 j.1.2.1 j.1.2.2.1 j.1.2.2.2 (Sl.mk [] false),j.2)).bind fun l=>elim (fun m=>some (inl m)) (fun m=>some (inr (m.2,kg m.1))) l) i).bind fun (i:zic)=>elim (fun j=>some (inl j)) (fun j=>some (inr (kg j.2,j.1))) i) d) c
def q28:YJ:=qdf q10 q3w qx q16 q4g
theorem q5w:@Eq YJ P31.F q28:=by delta q28;rw [<-q2a,<-q6p,<-q1b,<-q2j,<-qeh];kernel_rfl
def q5r (A:Zr) (B:VX):znM->G3 (Step znM (wT⊕q8)):=fun a=>if decide (a.2.1 < 3)=true then (WS [a.1.1,a.1.2.1,a.1.2.2] a.2.1).bind fun b=>(A (b,a.2.2)).bind fun c=>if c.1=true then some (Step.done (inl (b,c.2))) else some (Step.next (a.1,G4 (a.2.1+1),c.2)) else some (Step.done (inr a.2.2))
def qei (A:Zr) (B:VX) (x:q8):G3 zta:=(lpO (q5r A B) ((lit [60],lit [60,61],lit [61,61]),0,x)).bind fun a=>elim (fun b=>some (inl b)) (fun b=>(B (20,b)).bind fun c=>some (inr c)) a
def qbd:znJ:=qei qx q1k
theorem qjd:@Eq znJ P32.F qbd:=by delta qbd;rw [<-q1b,<-q4q];kernel_rfl
def qdg (A:YJ) (B:znJ) (x:q8):G3 Zf:=(A x).bind fun a=>elim (fun b=>some (inl b)) (fun b=>(B b.2).bind fun c=>elim (fun d=>(A d.2).bind fun e=>elim (fun i=>some (inl i)) (fun i=>some (inr ((4,d.1,0,b.1.a_),i.2,Sl.mk [kg b.1,kg i.1] true))) e) (fun d=>some (inl d)) c) a
def q3p:ZK:=qdg q28 qbd
theorem qej:@Eq ZK P33.F q3p:=by delta q3p;rw [<-q5w,<-qjd];kernel_rfl
def q7y (A:YJ) (B:Zr):yn->G3 (Step yn yH):=fun a=>(B (lit [44],a.1)).bind fun b=>if b.1=true then (A b.2).bind fun c=>elim (fun d=>some (Step.done (inl d))) (fun d=>(zp 64 a.2 [kg d.1]).bind fun e=>some (Step.next (d.2,e))) c else some (Step.done (inr (b.2,a.2)))
def qba (A:YJ) (B:Zr) (x:q8):G3 yH:=(A x).bind fun a=>elim (fun b=>some (inl b)) (fun b=>(lpO (q7y A B) (b.2,Sl.mk [kg b.1] true)).bind fun c=>elim (fun d=>some (inl d)) (fun d=>some (inr d)) c) a
def q87:YI:=qba q28 qx
theorem qgg:@Eq YI P34.F q87:=by delta q87;rw [<-q5w,<-q1b];kernel_rfl
def qdh (A:x3) (B:Zr) (C:YI) (x:q8):G3 yH:=(A (lit [40],x)).bind fun a=>elim (fun b=>some (inl b)) (fun b=>(B (lit [41],b)).bind fun c=>if c.1=true then some (inr (c.2,Sl.mk [] false)) else (C c.2).bind fun d=>elim (fun e=>some (inl e)) (fun e=>(A (lit [41],e.1)).bind fun i=>elim (fun j=>some (inl j)) (fun j=>some (inr (j,e.2))) i) d) a
def q4h:YI:=qdh q13 qx q87
theorem qb1:@Eq YI P35.F q4h:=by delta q4h;rw [<-q20,<-q1b,<-qgg];kernel_rfl
def qdi (A:Y2) (B:Zr) (C:zhP) (D:XX) (E:YJ) (G:Zr) (H:YI) (I:x3) (J:znO) (x:q8):G3 ZL:=(A x).bind fun a=>(B (lit [110,101,119],a.2)).bind fun b=>(if b.1=true then (C (1,b.2)).bind fun c=>elim (fun d=>some (inl d)) (fun d=>some (inr (inl (d.2,q7.mk 23 (lit []) d.1 a.1.a_ (Sl.mk [] false))))) c else (B (lit [97,114,114,97,121],b.2)).bind fun d=>(if d.1=true then (D d.2).bind fun e=>elim (fun i=>some (inl i)) (fun i=>some (inr (inl (i.2,q7.mk 24 i.1.2.1 0 a.1.a_ (Sl.mk [] false))))) e else (B (lit [38],d.2)).bind fun i=>(if i.1=true then (B (lit [109,117,116],i.2)).bind fun j=>(if j.1=true then some (j.2,(0,lit [],0,0),27,lit [],0,a.1.a_) else some (j.2,(0,lit [],0,0),26,lit [],0,a.1.a_)).bind fun (l:XB)=>(D l.1).bind fun m=>elim (fun n=>some (inl n)) (fun n=>some (inr (inl (n.2,q7.mk l.2.2.1 n.1.2.1 l.2.2.2.2.1 l.2.2.2.2.2 (Sl.mk [] false))))) m else (A i.2).bind fun n=>if decide (n.1.k_≠1)=true then (E n.2).bind fun o=>elim (fun p=>some (inl p)) (fun p=>some (inr (inl (p.2,kg p.1)))) o else some (inr (inr (n.2,(0,lit [],0,0),0,lit [],0,a.1.a_)))).bind fun (j:zr7)=>elim (fun l=>some (inl l)) (fun l=>elim (fun m=>some (inr (inl (m.1,kg m.2)))) (fun m=>some (inr (inr m))) l) j).bind fun (e:zr7)=>elim (fun i=>some (inl i)) (fun i=>elim (fun j=>some (inr (inl (j.1,kg j.2)))) (fun j=>some (inr (inr j))) i) e).bind fun (c:zr7)=>elim (fun d=>some (inl d)) (fun d=>elim (fun e=>some (inr (kg e.2,e.1))) (fun e=>(D e.1).bind fun i=>elim (fun j=>some (inl j)) (fun j=>(G (lit [40],j.2)).bind fun l=>(if l.1=true then (H l.2).bind fun m=>elim (fun n=>some (inl n)) (fun n=>some (inr (inl (n.1,(28,j.1.2),n.2)))) m else (B (lit [91],l.2)).bind fun n=>(if n.1=true then (E n.2).bind fun o=>elim (fun p=>some (inl p)) (fun p=>(I (lit [93],p.2)).bind fun r=>elim (fun s=>some (inl s)) (fun s=>some (inr (inl (s,(25,j.1.2),Sl.mk [kg p.1] true)))) r) o else some (inr (inr (n.2,e.2.1,j.1)))).bind fun (o:zrX)=>elim (fun p=>some (inl p)) (fun p=>elim (fun r=>some (inr (inl r))) (fun r=>some (inr (inr r))) p) o).bind fun (m:zrX)=>elim (fun n=>some (inl n)) (fun n=>elim (fun o=>some (inr (q7.mk o.2.1.1 o.2.1.2.1 o.2.1.2.2.1 o.2.1.2.2.2 o.2.2,o.1))) (fun o=>(yM (((G (lit [43],o.1)).bind fun p=>if p.1=true then (zd p.2.Q_ 1).bind fun r=>some (lit [43],21,decide (r.k_=1),p.2,o.2) else some (lit [43],21,false,p.2,o.2)).bind fun (p:znp)=>(if p.2.2.1=true then (I (p.1,p.2.2.2.1)).bind fun r=>elim (fun s=>some (inl (s.1,s.2,p.2.2.2.2))) (fun s=>(D s).bind fun t=>elim (fun u=>some (inl (u.1,u.2,p.2.2.2.2))) (fun u=>some (inr (inl (u.2,(p.2.1,lit [],0,p.2.2.2.2.2.2.2.2),p.2.2.2.2.2,Sl.mk [q7.mk p.2.2.2.2.2.1 p.2.2.2.2.2.2.1 p.2.2.2.2.2.2.2.1 p.2.2.2.2.2.2.2.2 (Sl.mk [] false),q7.mk u.1.1 u.1.2.1 u.1.2.2.1 u.1.2.2.2 (Sl.mk [] false)] true)))) t) r else some (inr (inr p.2.2.2))).bind fun (r:tA0)=>elim (fun s=>some (inl (s.1,s.2.1))) (fun s=>elim (fun t=>some (inr (inl (t.1,t.2.1,t.2.2.2)))) (fun t=>((G (lit [45],t.1)).bind fun u=>if u.1=true then (zd u.2.Q_ 1).bind fun v=>some (lit [45],22,decide (v.k_=1),u.2,t.2) else some (lit [45],22,false,u.2,t.2)).bind fun (u:znp)=>(if u.2.2.1=true then (I (u.1,u.2.2.2.1)).bind fun v=>elim (fun w=>some (inl (w.1,w.2,u.2.2.2.2))) (fun w=>(D w).bind fun z=>elim (fun K=>some (inl (K.1,K.2,u.2.2.2.2))) (fun K=>some (inr (inl (K.2,(u.2.1,lit [],0,u.2.2.2.2.2.2.2.2),u.2.2.2.2.2,Sl.mk [q7.mk u.2.2.2.2.2.1 u.2.2.2.2.2.2.1 u.2.2.2.2.2.2.2.1 u.2.2.2.2.2.2.2.2 (Sl.mk [] false),q7.mk K.1.1 K.1.2.1 K.1.2.2.1 K.1.2.2.2 (Sl.mk [] false)] true)))) z) v else some (inr (inr u.2.2.2))).bind fun (v:tA0)=>elim (fun w=>some (inl (w.1,w.2.1))) (fun w=>elim (fun z=>some (inr (inl (z.1,z.2.1,z.2.2.2)))) (fun z=>some (inr (inr z))) w) v) s) r) (((G (lit [45],o.1)).bind fun p=>if p.1=true then (zd p.2.Q_ 1).bind fun r=>some (lit [45],22,decide (r.k_=1),p.2,o.2) else some (lit [45],22,false,p.2,o.2)).bind fun (p:znp)=>(if p.2.2.1=true then (I (p.1,p.2.2.2.1)).bind fun r=>elim (fun s=>some (inl (s.1,s.2,p.2.2.2.2))) (fun s=>(D s).bind fun t=>elim (fun u=>some (inl (u.1,u.2,p.2.2.2.2))) (fun u=>some (inr (inl (u.2,(p.2.1,lit [],0,p.2.2.2.2.2.2.2.2),p.2.2.2.2.2,Sl.mk [q7.mk p.2.2.2.2.2.1 p.2.2.2.2.2.2.1 p.2.2.2.2.2.2.2.1 p.2.2.2.2.2.2.2.2 (Sl.mk [] false),q7.mk u.1.1 u.1.2.1 u.1.2.2.1 u.1.2.2.2 (Sl.mk [] false)] true)))) t) r else some (inr (inr p.2.2.2))).bind fun (r:tA0)=>elim (fun s=>some (inl (s.1,s.2.1))) (fun s=>elim (fun t=>some (inr (inl (t.1,t.2.1,t.2.2.2)))) (fun t=>((G (lit [43],t.1)).bind fun u=>if u.1=true then (zd u.2.Q_ 1).bind fun v=>some (lit [43],21,decide (v.k_=1),u.2,t.2) else some (lit [43],21,false,u.2,t.2)).bind fun (u:znp)=>(if u.2.2.1=true then (I (u.1,u.2.2.2.1)).bind fun v=>elim (fun w=>some (inl (w.1,w.2,u.2.2.2.2))) (fun w=>(D w).bind fun z=>elim (fun K=>some (inl (K.1,K.2,u.2.2.2.2))) (fun K=>some (inr (inl (K.2,(u.2.1,lit [],0,u.2.2.2.2.2.2.2.2),u.2.2.2.2.2,Sl.mk [q7.mk u.2.2.2.2.2.1 u.2.2.2.2.2.2.1 u.2.2.2.2.2.2.2.1 u.2.2.2.2.2.2.2.2 (Sl.mk [] false),q7.mk K.1.1 K.1.2.1 K.1.2.2.1 K.1.2.2.2 (Sl.mk [] false)] true)))) z) v else some (inr (inr u.2.2.2))).bind fun (v:tA0)=>elim (fun w=>some (inl (w.1,w.2.1))) (fun w=>elim (fun z=>some (inr (inl (z.1,z.2.1,z.2.2.2)))) (fun z=>some (inr (inr z))) w) v) s) r)).bind fun p=>elim (fun r=>some (inl r)) (fun r=>elim (fun s=>some (inr (q7.mk s.2.1.1 s.2.1.2.1 s.2.1.2.2.1 s.2.1.2.2.2 s.2.2,s.1))) (fun s=>(J (q7.mk s.2.2.1 s.2.2.2.1 s.2.2.2.2.1 s.2.2.2.2.2 (Sl.mk [] false),s.1)).bind fun t=>elim (fun u=>some (inl u)) (fun u=>some (inr (kg u.1,u.2))) t) r) p) n) m) i) d) c
def qaq:YJ:=qdi q10 qx q3w q16 q28 q21 q4h q13 q4g
theorem qik:@Eq YJ F36 qaq:=by delta qaq;rw [<-q2a,<-q1b,<-q6p,<-q2j,<-q5w,<-q5n,<-qb1,<-q20,<-qeh];kernel_rfl
def qcf (A:Zr) (B:YI) (C:Zr) (D:YJ) (E:x3) (G:YJ) (x:q7×q8):G3 Zf:=(A (lit [40],x.2)).bind fun a=>(if a.1=true then (B a.2).bind fun b=>elim (fun c=>some (inl c)) (fun c=>some (inr (inl (c.1,(20,lit [],0,x.1.a_),Sl.mk [q7.mk 28 x.1.T_ x.1.n_ x.1.a_ c.2] true)))) b else (C (lit [91],a.2)).bind fun c=>(if c.1=true then (D c.2).bind fun d=>elim (fun e=>some (inl e)) (fun e=>(E (lit [93],e.2)).bind fun i=>elim (fun j=>some (inl j)) (fun j=>(E (lit [61],j)).bind fun l=>elim (fun m=>some (inl m)) (fun m=>(D m).bind fun n=>elim (fun o=>some (inl o)) (fun o=>some (inr (inl (o.2,(11,x.1.T_,x.1.n_,x.1.a_),Sl.mk ([kg e.1]++[kg o.1]) (true || ![kg o.1].isEmpty))))) n) l) i) d else some (inr (inr (c.2,kg x.1,0,lit [],0,0)))).bind fun (d:zwl)=>elim (fun e=>some (inl e)) (fun e=>elim (fun i=>some (inr (inl i))) (fun i=>some (inr (inr (i.1,kg i.2.1,i.2.2)))) e) d).bind fun (b:zwl)=>elim (fun c=>some (inl c)) (fun c=>elim (fun d=>some (inr (d.2.1,d.1,d.2.2))) (fun d=>(E (lit [61],d.1)).bind fun e=>elim (fun i=>some (inl i)) (fun i=>(G i).bind fun j=>elim (fun l=>some (inl l)) (fun l=>some (inr ((10,d.2.1.T_,d.2.1.n_,d.2.1.a_),l.2,Sl.mk [kg l.1] true))) j) e) c) b
def q7b:q7×q8->G3 Zf:=qcf q21 q4h qx q28 q13 qaq
theorem qhr:@Eq ((q7×q8)->G3 Zf) P37.F q7b:=by delta q7b;rw [<-q5n,<-qb1,<-q1b,<-q5w,<-q20,<-qik];kernel_rfl
def q69 (A:ZK) (B:ZK) (x:zdF):G3 Zf:=(A x.2.2).bind fun a=>elim (fun b=>some (inl b)) (fun b=>(B b.2.1).bind fun c=>elim (fun d=>some (inl d)) (fun d=>(zp 64 b.2.2 [q7.mk d.1.1 d.1.2.1 d.1.2.2.1 d.1.2.2.2 d.2.2]).bind fun e=>some (inr ((x.1,b.1.2.1,b.1.2.2.1,x.2.1),d.2.1,e))) c) a
def q36 (h:ZK):zdF->G3 Zf:=q69 q3p h
theorem qc3 (h:ZK):@Eq ((zdF)->G3 Zf) (zmy h) (q36 h):=by delta q36;rw [<-qej];kernel_rfl
def q7u (A:Y2) (B:Zr) (C:XX) (D:q7×Int->G3 (q7×Int)) (E:znO) (G:Gp->G3 ZZ) (H:zdF->G3 Zf) (I:ZK) (J:Zr) (K:YJ) (L:YI) (P:q7×q8->G3 Zf) (x:q8):G3 ZL:=(A x).bind fun a=>(B (lit [102,114,101,101],a.2)).bind fun b=>(if b.1=true then (C b.2).bind fun c=>elim (fun d=>some (inl d)) (fun d=>(D (q7.mk 12 d.1.2.1 d.1.2.2.1 d.1.2.2.2 (Sl.mk [] false),a.1.a_)).bind fun e=>(E (kg e.1,d.2)).bind fun i=>elim (fun j=>some (inl j)) (fun j=>some (inr (inl (j.2,kg j.1)))) i) c else (B (lit [108,111,99,107],b.2)).bind fun d=>(if d.1=true then ((G (13,d.2)).bind fun e=>elim (fun i=>some (inl i)) (fun i=>(D (q7.mk i.1.1 i.1.2.1 i.1.2.2.1 i.1.2.2.2 (Sl.mk [] false),a.1.a_)).bind fun j=>(E (kg j.1,i.2)).bind fun l=>elim (fun m=>some (inl m)) (fun m=>some (inr (m.2,kg m.1))) l) e).bind fun (e:zic)=>elim (fun i=>some (inl i)) (fun i=>some (inr (inl (i.1,kg i.2)))) e else (B (lit [117,110,108,111,99,107],d.2)).bind fun i=>(if i.1=true then ((G (14,i.2)).bind fun j=>elim (fun l=>some (inl l)) (fun l=>(D (q7.mk l.1.1 l.1.2.1 l.1.2.2.1 l.1.2.2.2 (Sl.mk [] false),a.1.a_)).bind fun m=>(E (kg m.1,l.2)).bind fun n=>elim (fun o=>some (inl o)) (fun o=>some (inr (o.2,kg o.1))) n) j).bind fun (j:zic)=>elim (fun l=>some (inl l)) (fun l=>some (inr (inl (l.1,kg l.2)))) j else (B (lit [105,102],i.2)).bind fun l=>(if l.1=true then (H (15,a.1.a_,l.2)).bind fun m=>elim (fun n=>some (inl n)) (fun n=>(B (lit [101,108,115,101],n.2.1)).bind fun o=>(if o.1=true then (I o.2).bind fun p=>elim (fun r=>some (inl r)) (fun r=>(zp 64 n.2.2 [q7.mk r.1.1 r.1.2.1 r.1.2.2.1 r.1.2.2.2 r.2.2]).bind fun s=>some (inr (r.2.1,(0,lit [],0,0),n.1,s))) p else (zp 64 n.2.2 [q7.mk 9 (lit []) 0 a.1.a_ (Sl.mk [] false)]).bind fun r=>some (inr (o.2,(0,lit [],0,0),n.1,r))).bind fun (p:zbO)=>elim (fun r=>some (inl r)) (fun r=>some (inr (inl (r.1,q7.mk r.2.2.1.1 r.2.2.1.2.1 r.2.2.1.2.2.1 r.2.2.1.2.2.2 r.2.2.2)))) p) m else (B (lit [119,104,105,108,101],l.2)).bind fun n=>(if n.1=true then (H (16,a.1.a_,n.2)).bind fun o=>elim (fun p=>some (inl p)) (fun p=>some (inr (inl (p.2.1,q7.mk p.1.1 p.1.2.1 p.1.2.2.1 p.1.2.2.2 p.2.2)))) o else (B (lit [114,101,116,117,114,110],n.2)).bind fun p=>(if p.1=true then (J (lit [59],p.2)).bind fun r=>(if (!r.1)=true then (K r.2).bind fun s=>elim (fun t=>some (inl t)) (fun t=>some (inr (t.2,(0,lit [],0,0),(17,lit [],0,a.1.a_),Sl.mk [kg t.1] true))) s else some (inr (r.2,(0,lit [],0,0),(17,lit [],0,a.1.a_),Sl.mk [] false))).bind fun (s:zbO)=>elim (fun t=>some (inl t)) (fun t=>(E (q7.mk t.2.2.1.1 t.2.2.1.2.1 t.2.2.1.2.2.1 t.2.2.1.2.2.2 t.2.2.2,t.1)).bind fun u=>elim (fun v=>some (inl v)) (fun v=>some (inr (inl (v.2,kg v.1)))) u) s else (B (lit [97,98,111,114,116],p.2)).bind fun t=>(if t.1=true then (E (q7.mk 18 (lit []) 0 a.1.a_ (Sl.mk [] false),t.2)).bind fun u=>elim (fun v=>some (inl v)) (fun v=>some (inr (inl (v.2,kg v.1)))) u else (B (lit [102,111,114,107],t.2)).bind fun v=>(if v.1=true then (C v.2).bind fun w=>elim (fun z=>some (inl z)) (fun z=>(L z.2).bind fun Q=>elim (fun R=>some (inl R)) (fun R=>(D (q7.mk 19 z.1.2.1 z.1.2.2.1 z.1.2.2.2 R.2,a.1.a_)).bind fun S=>(E (kg S.1,R.1)).bind fun T=>elim (fun U=>some (inl U)) (fun U=>some (inr (inl (U.2,kg U.1)))) T) Q) w else some (inr (inr (v.2,0,lit [],0,0)))).bind fun (w:VQ)=>elim (fun z=>some (inl z)) (fun z=>elim (fun Q=>some (inr (inl (Q.1,kg Q.2)))) (fun Q=>some (inr (inr Q))) z) w).bind fun (u:VQ)=>elim (fun v=>some (inl v)) (fun v=>elim (fun w=>some (inr (inl (w.1,kg w.2)))) (fun w=>some (inr (inr w))) v) u).bind fun (r:VQ)=>elim (fun s=>some (inl s)) (fun s=>elim (fun t=>some (inr (inl (t.1,kg t.2)))) (fun t=>some (inr (inr t))) s) r).bind fun (o:VQ)=>elim (fun p=>some (inl p)) (fun p=>elim (fun r=>some (inr (inl (r.1,kg r.2)))) (fun r=>some (inr (inr r))) p) o).bind fun (m:VQ)=>elim (fun n=>some (inl n)) (fun n=>elim (fun o=>some (inr (inl (o.1,kg o.2)))) (fun o=>some (inr (inr o))) n) m).bind fun (j:VQ)=>elim (fun l=>some (inl l)) (fun l=>elim (fun m=>some (inr (inl (m.1,kg m.2)))) (fun m=>some (inr (inr m))) l) j).bind fun (e:VQ)=>elim (fun i=>some (inl i)) (fun i=>elim (fun j=>some (inr (inl (j.1,kg j.2)))) (fun j=>some (inr (inr j))) i) e).bind fun (c:VQ)=>elim (fun d=>some (inl d)) (fun d=>elim (fun e=>some (inr (kg e.2,e.1))) (fun e=>((C e.1).bind fun i=>elim (fun j=>some (inl j)) (fun j=>(P (q7.mk j.1.1 j.1.2.1 j.1.2.2.1 j.1.2.2.2 (Sl.mk [] false),j.2)).bind fun l=>elim (fun m=>some (inl m)) (fun m=>(E (q7.mk m.1.1 m.1.2.1 m.1.2.2.1 m.1.2.2.2 m.2.2,m.2.1)).bind fun n=>elim (fun o=>some (inl o)) (fun o=>some (inr (o.2,kg o.1))) n) l) i).bind fun (i:zic)=>elim (fun j=>some (inl j)) (fun j=>some (inr (kg j.2,j.1))) i) d) c
def q30 (h:ZK):YJ:=q7u q10 qx q16 q6h q58 q98 (q36 h) h q21 q28 q4h q7b
theorem qdj (h:ZK):@Eq YJ (zmz h) (q30 h):=by delta q30;rw [<-q2a,<-q1b,<-q2j,<-qh2,<-qhq,<-qk1,<-qc3 h,<-q5n,<-q5w,<-qb1,<-qhr];kernel_rfl
def qcb (A:Y2) (B:Zr) (C:VX) (D:x3) (E:Zr) (G:YJ):YY->G3 (Step YY zbO):=fun a=>(E (lit [125],a.1)).bind fun b=>if (!b.1)=true then (G b.2).bind fun c=>elim (fun d=>some (Step.done (inl d))) (fun d=>(zp 64 a.2.2.2 [kg d.1]).bind fun e=>some (Step.next (d.2,a.2.1,a.2.2.1,e))) c else some (Step.done (inr (b.2,a.2)))
def q6q (A:Y2) (B:Zr) (C:VX) (D:x3) (E:Zr) (G:YJ) (x:q8):G3 Zf:=(A x).bind fun a=>((B (lit [123],a.2)).bind fun b=>if b.1=true then some (decide (8<=b.2.D_),b.2,(0,lit [],0,0),9,lit [],0,a.1.a_) else some (false,b.2,(0,lit [],0,0),9,lit [],0,a.1.a_)).bind fun b=>if b.1=true then (C (21,b.2.1)).bind fun c=>some (inl c) else (D (lit [123],b.2.1)).bind fun d=>elim (fun e=>some (inl e)) (fun e=>(lpO (qcb A B C D E G) (q8.mk e.Q_ (G4 (e.D_+1)),b.2.2.1,b.2.2.2,Sl.mk [] false)).bind fun i=>elim (fun j=>some (inl j)) (fun j=>some (inr (j.2.2.1,q8.mk j.1.Q_ (G4 (j.1.D_ - 1)),j.2.2.2))) i) d
def q6r (h:ZK):ZK:=q6q q10 q21 q1k q13 qx (q30 h)
theorem qh3 (h:ZK):@Eq ZK (zmA h) (q6r h):=by delta q6r;rw [<-q2a,<-q5n,<-q4q,<-q20,<-q1b,<-qdj h];kernel_rfl
def q2w:Nat->q8->G3 Zf
  |0=>fun _=>none
  |k+1=>q6r (q2w k)
theorem q6s:∀ k,@Eq ZK (zjv k) (q2w k)
  |0=>rfl
  |k+1=>(qh3 (zjv k)).trans (congrArg q6r (q6s k))
def qaa:ZK:=q2w 100000
theorem qhs:@Eq ZK F40 qaa:=q6s 100000
def qf9 (A:XX) (B:x3) (C:Zr) (D:YI) (E:Zr) (G:VX) (H:zhU) (I:Y2) (J:ZK) (x:Gp):G3 Zf:=(A x.2).bind fun a=>elim (fun b=>some (inl b)) (fun b=>(B (lit [40],b.2)).bind fun c=>elim (fun d=>some (inl d)) (fun d=>(C (lit [41],d)).bind fun e=>(if (!e.1)=true then (D e.2).bind fun i=>elim (fun j=>some (inl j)) (fun j=>some (inr (j.1,(0,lit [],0,0),(6,b.1.2.1,b.1.2.2.1,x.1),j.2))) i else some (inr (e.2,(0,lit [],0,0),(6,b.1.2.1,b.1.2.2.1,x.1),Sl.mk [] false))).bind fun (i:zbO)=>elim (fun j=>some (inl j)) (fun j=>(B (lit [41],j.1)).bind fun l=>elim (fun m=>some (inl m)) (fun m=>(E (lit [45,62],m)).bind fun n=>(if n.1=true then (C (lit [38],n.2)).bind fun o=>if o.1=true then (G (20,o.2)).bind fun p=>some (inl p) else (H o.2).bind fun r=>elim (fun s=>some (inr (s.2,j.2.1,j.2.2.1,kg s.1,j.2.2.2))) (fun s=>some (inl s)) r else (I n.2).bind fun s=>some (inr (s.2,j.2.1,j.2.2.1,q7.mk 8 (lit []) 0 s.1.a_ (Sl.mk [] false),j.2.2.2))).bind fun (o:zY×q8⊕q8×(Int×G0×Int×Int)×(Int×G0×Int×Int)×q7×Sl q7)=>elim (fun p=>some (inl p)) (fun p=>(J p.1).bind fun r=>elim (fun s=>some (inl s)) (fun s=>(zp 64 p.2.2.2.2 [kg p.2.2.2.1,q7.mk s.1.1 s.1.2.1 s.1.2.2.1 s.1.2.2.2 s.2.2]).bind fun t=>some (inr (p.2.2.1,s.2.1,t))) r) o) l) i) c) a
def q99:Gp->G3 Zf:=qf9 q16 q13 q21 q81 qx q1k q89 q10 qaa
theorem qk2:@Eq ((Int×q8)->G3 Zf) P41.F q99:=by delta q99;rw [<-q2j,<-q20,<-q5n,<-qg7,<-q1b,<-q4q,<-qeg,<-q2a,<-qhs];kernel_rfl
def qdk (A:Y2) (B:Zr) (C:XX) (D:VX) (x:q8):G3 zsI:=(A x).bind fun a=>(A a.2).bind fun b=>(B (lit [111,119,110],b.2)).bind fun c=>(if c.1=true then some (c.1,c.2,(0,lit [],0,0),2,a.1.T_,0,b.1.a_) else (B (lit [99,101,108,108],c.2)).bind fun d=>some (d.1,d.2,(0,lit [],0,0),2,a.1.T_,0,b.1.a_)).bind fun (d:zhM)=>(if d.1=true then some (inl (d.2.1,d.2.2.1,d.2.2.2,Sl.mk [] false)) else (B (lit [99,111,117,110,116,101,100],d.2.1)).bind fun e=>(if e.1=true then some (e.1,e.2,d.2.2) else (B (lit [108,111,99,107],e.2)).bind fun i=>(if i.1=true then some (i.1,i.2,d.2.2) else (B (lit [103,117,97,114,100],i.2)).bind fun j=>some (j.1,j.2,d.2.2)).bind fun (j:zhM)=>some j).bind fun (i:zhM)=>(if i.1=true then (C i.2.1).bind fun j=>elim (fun l=>some (inl l)) (fun l=>some (inr (l.2,i.2.2.1,i.2.2.2,Sl.mk [q7.mk l.1.1 l.1.2.1 l.1.2.2.1 l.1.2.2.2 (Sl.mk [] false)] true))) j else (D (20,i.2.1)).bind fun l=>some (inl l)).bind fun (j:zbO)=>elim (fun l=>some (inr l)) (fun l=>some (inl l)) j).bind fun (e:q8×(Int×G0×Int×Int)×(Int×G0×Int×Int)×Sl q7⊕zY×q8)=>elim (fun i=>some (inl (i.2.2.1,i.1,i.2.2.2))) (fun i=>some (inr i)) e
def qap:znu:=qdk q10 qx q16 q1k
theorem qim:@Eq znu P42.F qap:=by delta qap;rw [<-q2a,<-q1b,<-q2j,<-q4q];kernel_rfl
def qcg (A:XX) (B:Zr) (C:x3) (x:q8):G3 Zf:=(A x).bind fun a=>elim (fun b=>some (inl b)) (fun b=>(B (lit [91],b.2)).bind fun c=>(if c.1=true then (A c.2).bind fun d=>elim (fun e=>some (inl e)) (fun e=>(C (lit [93],e.2)).bind fun i=>elim (fun j=>some (inl j)) (fun j=>some (inr (j,(0,lit [],0,0),(3,b.1.2),Sl.mk [q7.mk e.1.1 e.1.2.1 e.1.2.2.1 e.1.2.2.2 (Sl.mk [] false)] true))) i) d else some (inr (c.2,(0,lit [],0,0),(3,b.1.2),Sl.mk [] false))).bind fun (d:zbO)=>elim (fun e=>some (inl e)) (fun e=>some (inr (e.2.2.1,e.1,e.2.2.2))) d) a
def q79:ZK:=qcg q16 qx q13
theorem qht:@Eq ZK P43.F q79:=by delta q79;rw [<-q2j,<-q1b,<-q20];kernel_rfl
def q71 (A:ZK) (B:Zr):yn->G3 (Step yn yH):=fun a=>(B (lit [44],a.1)).bind fun b=>if b.1=true then (A b.2).bind fun c=>elim (fun d=>some (Step.done (inl d))) (fun d=>(zp 64 a.2 [q7.mk d.1.1 d.1.2.1 d.1.2.2.1 d.1.2.2.2 d.2.2]).bind fun e=>some (Step.next (d.2.1,e))) c else some (Step.done (inr (b.2,a.2)))
def qam (A:ZK) (B:Zr) (x:q8):G3 yH:=(A x).bind fun a=>elim (fun b=>some (inl b)) (fun b=>(lpO (q71 A B) (b.2.1,Sl.mk [q7.mk b.1.1 b.1.2.1 b.1.2.2.1 b.1.2.2.2 b.2.2] true)).bind fun c=>elim (fun d=>some (inl d)) (fun d=>some (inr d)) c) a
def q80:YI:=qam q79 qx
theorem qg8:@Eq YI P44.F q80:=by delta q80;rw [<-qht,<-q1b];kernel_rfl
def q7z (A:ZK) (B:Zr):yn->G3 (Step yn yH):=fun a=>(B (lit [44],a.1)).bind fun b=>if b.1=true then (A b.2).bind fun c=>elim (fun d=>some (Step.done (inl d))) (fun d=>(zp 64 a.2 [q7.mk d.1.1 d.1.2.1 d.1.2.2.1 d.1.2.2.2 d.2.2]).bind fun e=>some (Step.next (d.2.1,e))) c else some (Step.done (inr (b.2,a.2)))
def qbb (A:ZK) (B:Zr) (x:q8):G3 yH:=(A x).bind fun a=>elim (fun b=>some (inl b)) (fun b=>(lpO (q7z A B) (b.2.1,Sl.mk [q7.mk b.1.1 b.1.2.1 b.1.2.2.1 b.1.2.2.2 b.2.2] true)).bind fun c=>elim (fun d=>some (inl d)) (fun d=>some (inr d)) c) a
def q88:YI:=qbb q3p qx
theorem qgh:@Eq YI P45.F q88:=by delta q88;rw [<-qej,<-q1b];kernel_rfl
def qek (A:XX) (B:znu) (C:Zr) (D:YI) (E:x3) (G:YI) (x:Gp):G3 Zf:=(A x.2).bind fun a=>elim (fun b=>some (inl b)) (fun b=>(B b.2).bind fun c=>elim (fun d=>(C (lit [123],d.2.1)).bind fun e=>(if e.1=true then (D e.2).bind fun i=>elim (fun j=>some (inl j)) (fun j=>(zp 64 (Sl.mk [q7.mk d.1.1 d.1.2.1 d.1.2.2.1 d.1.2.2.2 d.2.2] true) j.2.xs).bind fun l=>(E (lit [125],j.1)).bind fun m=>elim (fun n=>some (inl n)) (fun n=>some (inr (n,(0,lit [],0,0),(1,b.1.2.1,b.1.2.2.1,x.1),l))) m) i else some (inr (e.2,(0,lit [],0,0),(1,b.1.2.1,b.1.2.2.1,x.1),Sl.mk [q7.mk d.1.1 d.1.2.1 d.1.2.2.1 d.1.2.2.2 d.2.2] true))).bind fun (i:zbO)=>elim (fun j=>some (inl j)) (fun j=>(C (lit [119,104,101,114,101],j.1)).bind fun l=>(if l.1=true then (G l.2).bind fun m=>elim (fun n=>some (inl n)) (fun n=>(zp 64 j.2.2.2 n.2.xs).bind fun o=>some (inr (n.1,j.2.1,j.2.2.1,o))) m else some (inr (l.2,j.2))).bind fun (m:zbO)=>elim (fun n=>some (inl n)) (fun n=>(E (lit [59],n.1)).bind fun o=>elim (fun p=>some (inl p)) (fun p=>some (inr (n.2.2.1,p,n.2.2.2))) o) m) i) (fun d=>some (inl d)) c) a
def q8v:Gp->G3 Zf:=qek q16 qap qx q80 q13 q88
theorem qje:@Eq ((Int×q8)->G3 Zf) P46.F q8v:=by delta q8v;rw [<-q2j,<-qim,<-q1b,<-qg8,<-q20,<-qgh];kernel_rfl
def qab (A:XD):zn5->G3 (Step zn5 Int):=fun a=>if decide (a.2.2.2 < a.2.2.1)=true then (zd a.2.1 a.2.2.2).bind fun b=>(A (kg b)).bind fun c=>some (Step.next (G4 (a.1+c),a.2.1,a.2.2.1,G4 (a.2.2.2+1))) else some (Step.done a.1)
def qbz (A:XD) (x:q7):Ga:=(lpO (qab A) (1,x.K_,x.K_.len,0)).bind fun a=>some a
def qc0 (h:XD):XD:=qbz h
theorem ql3 (h:XD):@Eq XD (zmB h) (qc0 h):=by kernel_rfl
def q4i:Nat->q7->G3 Int
  |0=>fun _=>none
  |k+1=>qc0 (q4i k)
theorem qhu:∀ k,@Eq XD (zjw k) (q4i k)
  |0=>rfl
  |k+1=>(ql3 (zjw k)).trans (congrArg qc0 (qhu k))
def qcy:XD:=q4i 100000
theorem ql5:@Eq XD F47 qcy:=qhu 100000
def qdl (x:VP):G3 YZ:=some ((0,lit [],0,0),x.1.1,x.1.2,x.2.2.2.2)
def qar:VP->G3 YZ:=qdl
theorem qin:@Eq ((VP)->G3 YZ) F48 qar:=by kernel_rfl
def qc4 (x:YZ):G3 YZ:=some x
def q9n:YZ->G3 YZ:=qc4
theorem qh5:@Eq ((YZ)->G3 YZ) F49 q9n:=by kernel_rfl
def q4t (A:zhX) (B:Y2) (C:Zr) (D:znr) (E:x3) (G:znr) (H:zwe) (I:XD) (J:zwi):zdo->G3 (Step zdo zwg):=fun a=>(B a.2.2.2.1).bind fun b=>if decide (b.1.k_≠0)=true then ((B b.2).bind fun c=>(C (lit [102,110],c.2)).bind fun d=>if d.1=true then ((D (c.1.a_,d.2)).bind fun e=>elim (fun i=>some (inl (i.1,a.1,a.2.1,a.2.2.1,a.2.2.2.2))) (fun i=>(zp 64 a.2.2.2.2 [q7.mk 0 (lit []) 0 0 (Sl.mk [] false)]).bind fun j=>(zd j (Sl.len a.2.2.2.2)).bind fun l=>yM ((zd j (Sl.len a.2.2.2.2)).bind fun m=>some (inr (a.1,a.2.1,a.2.2.1,i.2.1,j.set (Sl.len a.2.2.2.2) (q7.mk i.1.1 i.1.2.1 i.1.2.2.1 i.1.2.2.2 i.2.2)))) ((zd j (Sl.len a.2.2.2.2)).bind fun m=>some (inr (a.1,a.2.1,a.2.2.1,i.2.1,j.set (Sl.len a.2.2.2.2) (q7.mk i.1.1 i.1.2.1 i.1.2.2.1 i.1.2.2.2 i.2.2))))) e).bind fun e=>elim (fun i=>some (inl i)) (fun i=>some (inr i)) e else (E (lit [116,121,112,101],d.2)).bind fun i=>elim (fun j=>some (inl (j.1,a.1,a.2.1,a.2.2.1,a.2.2.2.2))) (fun j=>((G (c.1.a_,j)).bind fun l=>elim (fun m=>some (inl (m.1,a.1,a.2.1,a.2.2.1,a.2.2.2.2))) (fun m=>(zp 64 a.2.2.2.2 [q7.mk 0 (lit []) 0 0 (Sl.mk [] false)]).bind fun n=>(zd n (Sl.len a.2.2.2.2)).bind fun o=>yM ((zd n (Sl.len a.2.2.2.2)).bind fun p=>some (inr (a.1,a.2.1,a.2.2.1,m.2.1,n.set (Sl.len a.2.2.2.2) (q7.mk m.1.1 m.1.2.1 m.1.2.2.1 m.1.2.2.2 m.2.2)))) ((zd n (Sl.len a.2.2.2.2)).bind fun p=>some (inr (a.1,a.2.1,a.2.2.1,m.2.1,n.set (Sl.len a.2.2.2.2) (q7.mk m.1.1 m.1.2.1 m.1.2.2.1 m.1.2.2.2 m.2.2))))) l).bind fun l=>elim (fun m=>some (inl m)) (fun m=>some (inr m)) l) i).bind fun c=>elim (fun d=>some (Step.done (inl d))) (fun d=>some (Step.next d)) c else some (Step.done (inr (a.1,a.2.1,a.2.2.1,a.2.2.2.2)))
def qgy (A:zhX) (B:Y2) (C:Zr) (D:znr) (E:x3) (G:znr) (H:zwe) (I:XD) (J:zwi) (x:Zs):G3 zfO:=(A x).bind fun a=>if decide (a.2.1≠0)=true then some (q7.mk 0 (lit []) 0 0 (Sl.mk [] false),a.1,a.2.1) else (lpO (q4t A B C D E G H I J) ((0,lit [],0,0),a.1,a.2.1,q8.mk a.2.2 0,Sl.mk [] false)).bind fun b=>elim (fun c=>(H c).bind fun d=>some (q7.mk d.1.1 d.1.2.1 d.1.2.2.1 d.1.2.2.2 (Sl.mk [] false),d.2.1,d.2.2.1)) (fun c=>(I (q7.mk c.1.1 c.1.2.1 c.1.2.2.1 c.1.2.2.2 c.2.2.2)).bind fun d=>if decide (4096 < d)=true then (J ((0,lit [],0,0),0,22,Sl.mk [] false)).bind fun e=>some (q7.mk e.1.1 e.1.2.1 e.1.2.2.1 e.1.2.2.2 e.2.2.2,e.2.1,e.2.2.1) else (J (c.1,0,0,c.2.2.2)).bind fun i=>some (q7.mk i.1.1 i.1.2.1 i.1.2.2.1 i.1.2.2.2 i.2.2.2,i.2.1,i.2.2.1)) b
def q1o:VY:=qgy qa8 q10 qx q99 q13 q8v qar qcy q9n
theorem q8p:@Eq VY F50 q1o:=by delta q1o;rw [<-qld,<-q2a,<-q1b,<-qk2,<-q20,<-qje,<-qin,<-ql5,<-qh5];kernel_rfl
def q6f:zfF->G3 (Step zfF zix):=fun a=>if decide (a.2.2.1 < a.2.1)=true then (zd a.1 a.2.2.1).bind fun b=>(if decide (b.k_=3)=true then (zp 64 a.2.2.2.1 [kg b]).bind fun c=>some (a.1,a.2.1,a.2.2.1,c,a.2.2.2.2) else (if decide (b.k_=4)=true then (zp 64 a.2.2.2.2 [kg b]).bind fun d=>some (a.1,a.2.1,a.2.2.1,a.2.2.2.1,d) else some a).bind fun d=>some d).bind fun c=>some (Step.next (c.1,c.2.1,G4 (c.2.2.1+1),c.2.2.2)) else some (Step.done a.2.2.2)
def qfk (x:q7):G3 zix:=(lpO q6f (x.K_,x.K_.len,0,Sl.mk [] false,Sl.mk [] false)).bind fun a=>some a
def q83:zdz:=qfk
theorem ql6:@Eq zdz P51.F q83:=by kernel_rfl
def qae (x:zis):G3 Z0:=some (decide (x.1.N_=x.2),x.2)
def q5t:zis->G3 Z0:=qae
theorem qio:@Eq ((zis)->G3 Z0) P52.F q5t:=by kernel_rfl
def qf6 (A:zsZ):znZ->G3 (Step znZ V1):=fun a=>if decide (a.2.2.1 < a.2.1)=true then (zd a.1 a.2.2.1).bind fun b=>(A (b,a.2.2.2)).bind fun c=>if c.1=true then some (Step.done (inl (a.2.2.1,c.2))) else some (Step.next (a.1,a.2.1,G4 (a.2.2.1+1),c.2)) else some (Step.done (inr a.2.2.2))
def qbf (A:zsZ) (x:zbU):G3 yt:=(lpO (qf6 A) (x.1,Sl.len x.1,0,x.2)).bind fun a=>elim (fun b=>some b) (fun b=>some (-1,b)) a
def q9h:zbU->G3 yt:=qbf q5t
theorem qk3:@Eq ((zbU)->G3 yt) P53.F q9h:=by delta q9h;rw [<-qio];kernel_rfl
def qbg (A:zbU->G3 yt) (x:zbU):Ga:=(A x).bind fun a=>some a.1
def q23:zbU->Ga:=qbg q9h
theorem q9j:@Eq ((zbU)->G3 Int) P54.F q23:=by delta q23;rw [<-qk3];kernel_rfl
def qg4 (x:ziq):G3 YK:=if (!x.1)=true then some (inl (x.2.1.a_,x.2.2)) else some (inr ())
def q51:ziq->G3 YK:=qg4
theorem qgo:@Eq ((ziq)->G3 YK) P55.F q51:=by kernel_rfl
def qd3 (x:V3):G3 Z0:=some (decide (x.1.T_=x.2),x.2)
def q9a:V3->G3 Z0:=qd3
theorem ql1:@Eq ((V3)->G3 Z0) P56.F q9a:=by kernel_rfl
def qd7 (A:zhR):zdx->G3 (Step zdx V1):=fun a=>if decide (a.2.2.1 < a.2.1)=true then (zd a.1 a.2.2.1).bind fun b=>(A (kg b,a.2.2.2)).bind fun c=>if c.1=true then some (Step.done (inl (a.2.2.1,c.2))) else some (Step.next (a.1,a.2.1,G4 (a.2.2.1+1),c.2)) else some (Step.done (inr a.2.2.2))
def qaf (A:zhR) (x:XC):G3 yt:=(lpO (qd7 A) (x.1,Sl.len x.1,0,x.2)).bind fun a=>elim (fun b=>some b) (fun b=>some (-1,b)) a
def q8j:XC->G3 yt:=qaf q9a
theorem qip:@Eq ((XC)->G3 yt) P57.F q8j:=by delta q8j;rw [<-ql1];kernel_rfl
def q92 (A:zsV) (x:XC):G3 Z0:=(A x).bind fun a=>some (decide (0<=a.1),a.2)
def q6o:XC->G3 Z0:=q92 q8j
theorem qh6:@Eq ((XC)->G3 Z0) P58.F q6o:=by delta q6o;rw [<-qip];kernel_rfl
def qfl (A:XC->G3 Z0) (x:XC):Gj:=(A x).bind fun a=>some a.1
def q82:XC->Gj:=qfl q6o
theorem ql7:@Eq ((XC)->G3 Bool) P59.F q82:=by delta q82;rw [<-qh6];kernel_rfl
def q6j (x:V3):G3 Z0:=(if decide (x.1.T_=x.2)=true then some (decide (x.1.K_.len=0),x.2) else some (false,x.2)).bind fun a=>some a
def q47:V3->G3 Z0:=q6j
theorem qhv:@Eq ((V3)->G3 Z0) P60.F q47:=by kernel_rfl
def qcc (A:zhR):zdx->G3 (Step zdx V1):=fun a=>if decide (a.2.2.1 < a.2.1)=true then (zd a.1 a.2.2.1).bind fun b=>(A (kg b,a.2.2.2)).bind fun c=>if c.1=true then some (Step.done (inl (a.2.2.1,c.2))) else some (Step.next (a.1,a.2.1,G4 (a.2.2.1+1),c.2)) else some (Step.done (inr a.2.2.2))
def q9u (A:zhR) (x:XC):G3 yt:=(lpO (qcc A) (x.1,Sl.len x.1,0,x.2)).bind fun a=>elim (fun b=>some b) (fun b=>some (-1,b)) a
def q7t:XC->G3 yt:=q9u q47
theorem qhw:@Eq ((XC)->G3 yt) P61.F q7t:=by delta q7t;rw [<-qhv];kernel_rfl
def qaw (A:zsV) (x:zn8):Ga:=(A (x.2.2,x.2.1)).bind fun a=>some a.1
def q2p:zn8->Ga:=qaw q7t
theorem qbi:@Eq ((zn8)->G3 Int) P62.F q2p:=by delta q2p;rw [<-qhw];kernel_rfl
def q1g:znS->G3 (Step znS zdG):=fun a=>if decide (a.2.2.2 < a.2.2.1)=true then (zd a.1 a.2.2.2).bind fun b=>if decide (a.2.1=b)=true then some (Step.done (inl a.2.2.2)) else some (Step.next (a.1,a.2.1,a.2.2.1,G4 (a.2.2.2+1))) else some (Step.done (inr ()))
def q63 (x:zid):Ga:=(lpO q1g (x.1,x.2,Sl.len x.1,0)).bind fun a=>elim (fun b=>some b) (fun b=>some (-1)) a
def q2e:zid->Ga:=q63
theorem qai:@Eq ((zid)->G3 Int) P63.F q2e:=by kernel_rfl
def q8y (A:zs7) (B:zdu) (C:zdq) (D:zbS) (x:znx):G3 zai:=(A (Sl.mk [lit [111,119,110],lit [99,101,108,108],lit [99,111,117,110,116,101,100],lit [108,111,99,107],lit [103,117,97,114,100]] true,x.2.1.T_)).bind fun a=>(if decide (a=2)=true then some (x.1,x.2.2.1,x.2.2.2.1,a,decide (a=2),(x.2.2.2.2.1.1,a,x.2.2.2.2.1.2.2),x.2.2.2.2.2.1,x.2.2.2.2.2.2,kg x.2.1) else some (x.1,x.2.2.1,x.2.2.2.1,a,decide (a=3),(x.2.2.2.2.1.1,a,x.2.2.2.2.1.2.2),x.2.2.2.2.2.1,x.2.2.2.2.2.2,kg x.2.1)).bind fun b=>(if b.2.2.2.2.1=true then (zd b.2.2.2.2.2.2.2.2.K_ 0).bind fun c=>(B (qa.mk b.2.2.2.2.2.1.1 b.2.2.2.2.2.1.2.1 b.2.2.2.2.2.1.2.2 b.2.2.2.2.2.2.1 b.2.2.2.2.2.2.2.1,c.T_,b.2.1)).bind fun d=>(C (decide (0<=d),kg b.2.2.2.2.2.2.2.2,32)).bind fun e=>elim (fun i=>some (inl (i,(b.2.2.2.2.2.1.1,b.2.2.2.2.2.1.2.1,d),b.2.2.2.2.2.2.1,b.2.2.2.2.2.2.2.1))) (fun i=>some (inr ((b.2.2.2.2.2.1.1,b.2.2.2.2.2.1.2.1,d),b.2.2.2.2.2.2.1,b.2.2.2.2.2.2.2.1))) e else (if decide (b.2.2.2.1=4)=true then (zd b.2.2.2.2.2.2.2.2.K_ 0).bind fun i=>(D (b.1,i.T_)).bind fun j=>(if decide (0<=j)=true then (zd b.1 j).bind fun l=>(C (decide (l.S_=3),kg b.2.2.2.2.2.2.2.2,31)).bind fun m=>elim (fun n=>some (inl (n,(b.2.2.2.2.2.1.1,b.2.2.2.2.2.1.2.1,j),b.2.2.2.2.2.2.1,b.2.2.2.2.2.2.2.1))) (fun n=>some (inr (b.2.1,b.2.2.1,(b.2.2.2.2.2.1.1,b.2.2.2.2.2.1.2.1,j),b.2.2.2.2.2.2.1,b.2.2.2.2.2.2.2.1,kg b.2.2.2.2.2.2.2.2))) m else (C (false,kg b.2.2.2.2.2.2.2.2,31)).bind fun n=>elim (fun o=>some (inl (o,(b.2.2.2.2.2.1.1,b.2.2.2.2.2.1.2.1,j),b.2.2.2.2.2.2.1,b.2.2.2.2.2.2.2.1))) (fun o=>some (inr (b.2.1,b.2.2.1,(b.2.2.2.2.2.1.1,b.2.2.2.2.2.1.2.1,j),b.2.2.2.2.2.2.1,b.2.2.2.2.2.2.2.1,kg b.2.2.2.2.2.2.2.2))) n).bind fun l=>elim (fun m=>some (inl m)) (fun m=>(C (decide (G4 (Sl.len m.1+Sl.len m.2.1)=0),kg m.2.2.2.2.2,32)).bind fun n=>elim (fun o=>some (inl (o,m.2.2.1,m.2.2.2.1,m.2.2.2.2.1))) (fun o=>some (inr (m.2.2.1,m.2.2.2.1,m.2.2.2.2.1))) n) l else some (inr (b.2.2.2.2.2.1,b.2.2.2.2.2.2.1,b.2.2.2.2.2.2.2.1))).bind fun i=>elim (fun j=>some (inl j)) (fun j=>some (inr j)) i).bind fun c=>elim (fun d=>some (inl d)) (fun d=>some (inr d)) c
def q3l:znx->G3 zai:=q8y q2e q2p q51 q23
theorem qk4:@Eq ((znx)->G3 zai) P64.F q3l:=by delta q3l;rw [<-qai,<-qbi,<-qgo,<-q9j];kernel_rfl
def qbv (x:VZ):G3 (Sl qr):=(if decide (x.1=lit [60])=true then some (inl (Sl.mk [qr.mk x.2.1 x.2.2.1 (G4 (G4 (x.2.2.2.2 - x.2.2.2.1) - 1))] true)) else (if decide (x.1=lit [60,61])=true then some (inl (Sl.mk [qr.mk x.2.1 x.2.2.1 (G4 (x.2.2.2.2 - x.2.2.2.1))] true)) else if decide (x.1=lit [61,61])=true then some (inl (Sl.mk [qr.mk x.2.1 x.2.2.1 (G4 (x.2.2.2.2 - x.2.2.2.1)),qr.mk x.2.2.1 x.2.1 (G4 (x.2.2.2.1 - x.2.2.2.2))] true)) else some (inr ())).bind fun a=>elim (fun b=>some (inl b)) (fun b=>some (inr ())) a).bind fun a=>elim (fun b=>some b) (fun b=>some (Sl.mk [] false)) a
def q84:VZ->G3 (Sl qr):=qbv
theorem ql8:@Eq ((VZ)->G3 (Sl qr)) P65.F q84:=by kernel_rfl
def q73 (A:zdu) (B:zdq) (C:zsP):zkm->G3 (Step zkm zwh):=fun a=>if decide (a.2.2.2.1 < a.2.2.1)=true then ((zd a.2.1 a.2.2.2.1).bind fun b=>if decide (b.T_=lit [])=true then some (inl (a.1,a.2.1,a.2.2.1,a.2.2.2.1,a.2.2.2.2.1,a.2.2.2.2.2.1,a.2.2.2.2.2.2.1,kg a.2.2.2.2.2.2.2.1,a.2.2.2.2.2.2.2.2)) else (A (qa.mk a.2.2.2.2.1.1 a.2.2.2.2.1.2.1 a.2.2.2.2.1.2.2 a.2.2.2.2.2.1 a.2.2.2.2.2.2.1,b.T_,a.1)).bind fun c=>(if decide (0<=c)=true then if decide (a.2.2.2.2.1.2.1=2)=true then (B (!decide (c=a.2.2.2.2.1.2.2),kg a.2.2.2.2.2.2.2.1,33)).bind fun d=>elim (fun e=>some (inl (e,a.2.2.2.2.1,a.2.2.2.2.2.1,a.2.2.2.2.2.2.1))) (fun e=>some (inr (a.1,a.2.2.2.1,c,a.2.1,a.2.2.1,a.2.2.2.1,a.2.2.2.2.1,a.2.2.2.2.2.1,a.2.2.2.2.2.2.1,kg a.2.2.2.2.2.2.2.1,a.2.2.2.2.2.2.2.2))) d else if decide (a.2.2.2.2.1.2.1=3)=true then (B (!decide (c=a.2.2.2.2.1.2.2),kg a.2.2.2.2.2.2.2.1,33)).bind fun e=>elim (fun i=>some (inl (i,a.2.2.2.2.1,a.2.2.2.2.2.1,a.2.2.2.2.2.2.1))) (fun i=>some (inr (a.1,a.2.2.2.1,c,a.2.1,a.2.2.1,a.2.2.2.1,a.2.2.2.2.1,a.2.2.2.2.2.1,a.2.2.2.2.2.2.1,kg a.2.2.2.2.2.2.2.1,a.2.2.2.2.2.2.2.2))) e else (B (!false,kg a.2.2.2.2.2.2.2.1,33)).bind fun i=>elim (fun j=>some (inl (j,a.2.2.2.2.1,a.2.2.2.2.2.1,a.2.2.2.2.2.2.1))) (fun j=>some (inr (a.1,a.2.2.2.1,c,a.2.1,a.2.2.1,a.2.2.2.1,a.2.2.2.2.1,a.2.2.2.2.2.1,a.2.2.2.2.2.2.1,kg a.2.2.2.2.2.2.2.1,a.2.2.2.2.2.2.2.2))) i else (B (false,kg a.2.2.2.2.2.2.2.1,33)).bind fun j=>elim (fun l=>some (inl (l,a.2.2.2.2.1,a.2.2.2.2.2.1,a.2.2.2.2.2.2.1))) (fun l=>some (inr (a.1,a.2.2.2.1,c,a.2.1,a.2.2.1,a.2.2.2.1,a.2.2.2.2.1,a.2.2.2.2.2.1,a.2.2.2.2.2.2.1,kg a.2.2.2.2.2.2.2.1,a.2.2.2.2.2.2.2.2))) j).bind fun d=>elim (fun e=>some (inr e)) (fun e=>(bif decide (e.2.1=1) then some (e.1,e.2.2.2.1,e.2.2.2.2.1,e.2.2.2.2.2.1,e.2.2.2.2.2.2.1,e.2.2.2.2.2.2.2.1,e.2.2.2.2.2.2.2.2.1,kg e.2.2.2.2.2.2.2.2.2.1,e.2.2.2.2.2.2.2.2.2.2.1,G4 (e.2.2.1+1)) else bif decide (e.2.1=0) then some (e.1,e.2.2.2.1,e.2.2.2.2.1,e.2.2.2.2.2.1,e.2.2.2.2.2.2.1,e.2.2.2.2.2.2.2.1,e.2.2.2.2.2.2.2.2.1,kg e.2.2.2.2.2.2.2.2.2.1,G4 (e.2.2.1+1),e.2.2.2.2.2.2.2.2.2.2.2) else none).bind fun i=>some (inl (i.1,i.2.1,i.2.2.1,i.2.2.2.1,i.2.2.2.2.1,i.2.2.2.2.2.1,i.2.2.2.2.2.2.1,kg i.2.2.2.2.2.2.2.1,i.2.2.2.2.2.2.2.2))) d).bind fun b=>elim (fun c=>some (Step.next (c.1,c.2.1,c.2.2.1,G4 (c.2.2.2.1+1),c.2.2.2.2.1,c.2.2.2.2.2.1,c.2.2.2.2.2.2.1,kg c.2.2.2.2.2.2.2.1,c.2.2.2.2.2.2.2.2))) (fun c=>some (Step.done (inl c))) b else some (Step.done (inr (a.2.2.2.2.1,a.2.2.2.2.2.1,a.2.2.2.2.2.2.1,kg a.2.2.2.2.2.2.2.1,a.2.2.2.2.2.2.2.2)))
def q9b (A:zdu) (B:zdq) (C:zsP) (x:znG):G3 zai:=(lpO (q73 A B C) (x.2.1,x.1.K_,x.1.K_.len,0,x.2.2.1,x.2.2.2.1,x.2.2.2.2,kg x.1,0,0)).bind fun a=>elim (fun b=>some (inl b)) (fun b=>(zd b.2.2.2.1.K_ 0).bind fun c=>(zd b.2.2.2.1.K_ 1).bind fun d=>(C (b.2.2.2.1.T_,b.2.2.2.2.1,b.2.2.2.2.2,c.n_,d.n_)).bind fun e=>(zp 24 b.2.2.1 e.xs).bind fun i=>some (inr (b.1,b.2.1,i))) a
def q42:znG->G3 zai:=q9b q2p q51 q84
theorem qkj:@Eq ((znG)->G3 zai) P66.F q42:=by delta q42;rw [<-qbi,<-qgo,<-ql8];kernel_rfl
def q74 (A:zdz) (B:zbS) (C:zdq) (D:znY) (E:zdu) (G:tA2) (H:tA9):znj->G3 (Step znj zwm):=fun a=>if decide (a.2.2.2.2.1 < a.2.2.2.1)=true then ((zd a.2.2.1 a.2.2.2.2.1).bind fun b=>(Zv a.2.1 0 a.2.2.2.2.1).bind fun c=>(D (c,b.T_)).bind fun d=>(C (!d,kg b,30)).bind fun e=>elim (fun i=>some (inl i)) (fun i=>(if decide (0 < b.K_.len)=true then (zd b.K_ 0).bind fun j=>(E (qa.mk a.2.2.2.2.2.2.2.2.1.1 a.2.2.2.2.2.2.2.2.1.2.1 a.2.2.2.2.2.2.2.2.1.2.2 a.2.2.2.2.2.2.2.2.2 (Sl.mk [] false),j.T_,a.2.1)).bind fun l=>((zd a.2.2.2.2.2.1.K_ 0).bind fun m=>if decide (m.T_=lit [111,119,110])=true then (C (decide (0<=l),kg b,32)).bind fun n=>elim (fun o=>some (inl o)) (fun o=>some (inr (a.1,a.2.1,l,a.2.2.1,a.2.2.2.1,a.2.2.2.2.1,kg a.2.2.2.2.2.1,a.2.2.2.2.2.2.1,a.2.2.2.2.2.2.2.1,a.2.2.2.2.2.2.2.2.1,kg b,a.2.2.2.2.2.2.2.2.2))) n else (C (false,kg b,32)).bind fun o=>elim (fun p=>some (inl p)) (fun p=>some (inr (a.1,a.2.1,l,a.2.2.1,a.2.2.2.1,a.2.2.2.2.1,kg a.2.2.2.2.2.1,a.2.2.2.2.2.2.1,a.2.2.2.2.2.2.2.1,a.2.2.2.2.2.2.2.2.1,kg b,a.2.2.2.2.2.2.2.2.2))) o).bind fun m=>elim (fun n=>some (inl n)) (fun n=>some (inr (n.1,n.2.1,n.2.2.1,n.2.2.2.1,n.2.2.2.2.1,n.2.2.2.2.2.1,kg n.2.2.2.2.2.2.1,n.2.2.2.2.2.2.2.1,n.2.2.2.2.2.2.2.2.1,n.2.2.2.2.2.2.2.2.2.1,kg n.2.2.2.2.2.2.2.2.2.2.1,n.2.2.2.2.2.2.2.2.2.2.2))) m else some (inr (a.1,a.2.1, -1,a.2.2.1,a.2.2.2.1,a.2.2.2.2.1,kg a.2.2.2.2.2.1,a.2.2.2.2.2.2.1,a.2.2.2.2.2.2.2.1,a.2.2.2.2.2.2.2.2.1,kg b,a.2.2.2.2.2.2.2.2.2))).bind fun j=>elim (fun l=>some (inl l)) (fun l=>(zp 24 l.2.2.2.2.2.2.2.2.2.2.2 [qp.mk l.2.2.2.2.2.2.2.2.2.2.1.T_ l.2.2.1]).bind fun m=>some (inr (l.1,l.2.1,l.2.2.2.1,l.2.2.2.2.1,l.2.2.2.2.2.1,kg l.2.2.2.2.2.2.1,l.2.2.2.2.2.2.2.1,l.2.2.2.2.2.2.2.2.1,l.2.2.2.2.2.2.2.2.2.1,m))) j) e).bind fun b=>elim (fun c=>some (Step.done (inl c))) (fun c=>some (Step.next (c.1,c.2.1,c.2.2.1,c.2.2.2.1,G4 (c.2.2.2.2.1+1),kg c.2.2.2.2.2.1,c.2.2.2.2.2.2))) b else some (Step.done (inr (a.1,a.2.1,kg a.2.2.2.2.2.1,a.2.2.2.2.2.2)))
def q75 (A:zdz) (B:zbS) (C:zdq) (D:znY) (E:zdu) (G:tA2) (H:tA9):zr8->G3 (Step zr8 zsC):=fun a=>if decide (a.2.2.2.1 < a.2.2.1)=true then (zd a.2.1 a.2.2.2.1).bind fun b=>(H (kg b,a.1,a.2.2.2.2.2)).bind fun c=>elim (fun d=>some (Step.done (inl d.1))) (fun d=>some (Step.next (a.1,a.2.1,a.2.2.1,G4 (a.2.2.2.1+1),a.2.2.2.2.1,d))) c else some (Step.done (inr a.2.2.2.2))
def q9c (A:zdz) (B:zbS) (C:zdq) (D:znY) (E:zdu) (G:tA2) (H:tA9) (x:Gg×q7):G3 zfC:=(A (kg x.2)).bind fun a=>(B (x.1,x.2.T_)).bind fun b=>(C (decide (b < 0),kg x.2,30)).bind fun c=>elim (fun d=>some (inl d)) (fun d=>(C (decide (Sl.len a.1<=8),kg x.2,22)).bind fun e=>elim (fun i=>some (inl i)) (fun i=>(lpO (q74 A B C D E G H) (x.1,a.1,a.1,Sl.len a.1,0,kg x.2,(lit [],0,0),a.2,(x.2.T_,0,0),Sl.mk [] false)).bind fun j=>elim (fun l=>some (inl l)) (fun l=>(zd l.2.2.1.K_ 0).bind fun m=>(G (l.1,kg m,l.2.1,l.2.2.2.2.1,l.2.2.2.2.2.1,l.2.2.2.2.2.2,Sl.mk [] false)).bind fun n=>elim (fun o=>some (inl o.1)) (fun o=>(lpO (q75 A B C D E G H) (l.2.1,l.2.2.2.2.1,Sl.len l.2.2.2.2.1,0,l.2.2.2.1,o)).bind fun p=>elim (fun r=>some (inl r)) (fun r=>some (inr r.2)) p) n) j) e) c
def q4s:Gg×q7->G3 zfC:=q9c q83 q23 q51 q82 q2p q3l q42
theorem qkk:@Eq ((Sl qa×q7)->G3 zfC) P67.F q4s:=by delta q4s;rw [<-ql6,<-q9j,<-qgo,<-ql7,<-qbi,<-qk4,<-qkj];kernel_rfl
def qax (x:zh3):G3 Y3:=some (x.1.1,x.1.2,x.2.2.2)
def q6c:zh3->G3 Y3:=qax
theorem qjf:@Eq ((zh3)->G3 Y3) F68 q6c:=by kernel_rfl
def q9v (x:Y3):G3 Y3:=some x
def q5e:Y3->G3 Y3:=q9v
theorem qhx:@Eq ((Y3)->G3 Y3) F69 q5e:=by kernel_rfl
def qac (A:zsE) (B:zsK) (C:zsS):zfE->G3 (Step zfE zsJ):=fun a=>if decide (a.2.2.1 < a.2.1)=true then (zd a.1 a.2.2.1).bind fun b=>(if decide (b.k_=1)=true then (yM ((A (a.2.2.2.2.2.2,kg b)).bind fun c=>elim (fun d=>some (inl (d,kg a.2.2.2.1,a.2.2.2.2))) (fun d=>(zp 80 a.2.2.2.2.2.2 [qa.mk d.1.1 d.1.2.1 d.1.2.2 d.2.1 d.2.2]).bind fun e=>some (inr (a.1,a.2.1,a.2.2.1,kg a.2.2.2.1,a.2.2.2.2.1,a.2.2.2.2.2.1,e))) c) ((A (a.2.2.2.2.2.2,kg b)).bind fun c=>elim (fun d=>some (inl (d,kg a.2.2.2.1,a.2.2.2.2))) (fun d=>yM ((zp 80 a.2.2.2.2.2.2 [qa.mk d.1.1 d.1.2.1 d.1.2.2 d.2.1 d.2.2]).bind fun e=>some (inr (a.1,a.2.1,a.2.2.1,kg a.2.2.2.1,a.2.2.2.2.1,a.2.2.2.2.2.1,e))) ((zp 80 a.2.2.2.2.2.2 [qa.mk d.1.1 d.1.2.1 d.1.2.2 d.2.1 d.2.2]).bind fun e=>some (inr (a.1,a.2.1,a.2.2.1,kg a.2.2.2.1,a.2.2.2.2.1,a.2.2.2.2.2.1,e)))) c)).bind fun c=>elim (fun d=>some (inl (d.1,kg d.2.1,d.2.2))) (fun d=>some (inr (d.1,d.2.1,d.2.2.1,kg d.2.2.2.1,d.2.2.2.2))) c else some (inr (a.1,a.2.1,a.2.2.1,kg a.2.2.2.1,a.2.2.2.2))).bind fun c=>elim (fun d=>some (Step.done (inl (d.1,kg d.2.1,d.2.2)))) (fun d=>some (Step.next (d.1,d.2.1,G4 (d.2.2.1+1),kg d.2.2.2.1,d.2.2.2.2))) c else some (Step.done (inr (kg a.2.2.2.1,a.2.2.2.2)))
def qbw (A:zsE) (B:zsK) (C:zsS) (x:q7):G3 Y3:=(lpO (qac A B C) (x.K_,x.K_.len,0,kg x,0,0,Sl.mk [] false)).bind fun a=>elim (fun b=>(B (b.1,b.2.2)).bind fun c=>some (c.1,c.2.1,Sl.mk [] false)) (fun b=>(C (0,0,b.2.2.2)).bind fun c=>some c) a
def q3f:zh5:=qbw q4s q6c q5e
theorem qj9:@Eq zh5 F70 q3f:=by delta q3f;rw [<-qkk,<-qjf,<-qhx];kernel_rfl
def qeb (A:zs7) (B:zbS) (x:vo):G3 (qf×Int):=(A (Sl.mk [lit [],lit [105,110,116],lit [111,119,110],lit [38],lit [38,109,117,116]] true,x.1.T_)).bind fun a=>(if decide (0 < x.1.K_.len)=true then (zd x.1.K_ 0).bind fun b=>(B (x.2,b.T_)).bind fun c=>if decide (c < 0)=true then some (inl (31,qf.mk (lit []) 0 0)) else some (inr (qf.mk (lit []) 0 0,qf.mk (lit []) a c)) else some (inr (qf.mk (lit []) 0 0,qf.mk (lit []) a 0))).bind fun b=>elim (fun c=>some (c.2,c.1)) (fun c=>some (c.2,0)) b
def q8n:vo->G3 (qf×Int):=qeb q2e q23
theorem qlk:@Eq ((vo)->G3 (qf×Int)) P71.F q8n:=by delta q8n;rw [<-qai,<-q9j];kernel_rfl
def qg5 (x:qf×qf):G3 wU:=some (decide (x.1.N_=x.2.N_),x.2)
def q8q:qf×qf->G3 wU:=qg5
theorem qle:@Eq ((qf×qf)->G3 wU) P72.F q8q:=by kernel_rfl
def q9d (A:zia):zdD->G3 (Step zdD zh8):=fun a=>if decide (a.2.1 < a.1)=true then (zd a.2.2.1 a.2.1).bind fun b=>(zd a.2.2.1 a.2.1).bind fun c=>(A (c,a.2.2.2)).bind fun d=>if d.1=true then some (Step.done (inl (a.2.1,a.2.2.1,d.2))) else some (Step.next (a.1,G4 (a.2.1+1),a.2.2.1,d.2)) else some (Step.done (inr a.2.2))
def qbr (A:zia) (x:x5):G3 WF:=(lpO (q9d A) (Sl.len x.1,0,x)).bind fun a=>elim (fun b=>some b) (fun b=>some (-1,b)) a
def qa5:x5->G3 WF:=qbr q8q
theorem qkl:@Eq ((x5)->G3 WF) P73.F qa5:=by delta qa5;rw [<-qle];kernel_rfl
def qay (A:zs5) (x:x5):G3 V2:=(A x).bind fun a=>some (decide (0<=a.1),a.2)
def q43:x5->G3 V2:=qay qa5
theorem qjg:@Eq ((x5)->G3 V2) P74.F q43:=by delta q43;rw [<-qkl];kernel_rfl
def qbx (x:zdH):Gj:=(if decide (1 < x.1.M_)=true then (zd x.2 x.1.t_).bind fun a=>some (decide (a.S_≠0)) else some false).bind fun a=>some a
def q62:zdH->Gj:=qbx
theorem ql9:@Eq ((zdH)->G3 Bool) P75.F q62:=by kernel_rfl
def qcz (x:qf×qf):G3 wU:=(if decide (1 < x.1.M_)=true then some (decide (x.1.t_=x.2.t_),x.2) else some (false,x.2)).bind fun a=>some a
def q76:qf×qf->G3 wU:=qcz
theorem qlf:@Eq ((qf×qf)->G3 wU) P76.F q76:=by kernel_rfl
def q9e (A:zia):zdD->G3 (Step zdD zh8):=fun a=>if decide (a.2.1 < a.1)=true then (zd a.2.2.1 a.2.1).bind fun b=>(zd a.2.2.1 a.2.1).bind fun c=>(A (c,a.2.2.2)).bind fun d=>if d.1=true then some (Step.done (inl (a.2.1,a.2.2.1,d.2))) else some (Step.next (a.1,G4 (a.2.1+1),a.2.2.1,d.2)) else some (Step.done (inr a.2.2))
def qbs (A:zia) (x:x5):G3 WF:=(lpO (q9e A) (Sl.len x.1,0,x)).bind fun a=>elim (fun b=>some b) (fun b=>some (-1,b)) a
def qa6:x5->G3 WF:=qbs q76
theorem qkm:@Eq ((x5)->G3 WF) P77.F qa6:=by delta qa6;rw [<-qlf];kernel_rfl
def qaz (A:zs5) (x:x5):G3 V2:=(A x).bind fun a=>some (decide (0<=a.1),a.2)
def q44:x5->G3 V2:=qaz qa6
theorem qjh:@Eq ((x5)->G3 V2) P78.F q44:=by delta q44;rw [<-qkm];kernel_rfl
def qbc (A:ztb) (B:zhW) (C:zdH->Gj) (D:zhW):zr0->G3 (Step zr0 zv6):=fun a=>if decide (a.2.2.2.2.1 < a.2.2.2.1)=true then (zd a.2.2.1 a.2.2.2.2.1).bind fun b=>(zd b.K_ 0).bind fun c=>(A (kg c,a.1)).bind fun d=>(B (a.2.2.2.2.2.2.2.2,qf.mk b.T_ d.1.M_ d.1.t_)).bind fun e=>(if e.1=true then some (inl (b.a_,30,lit [],lit [],0,0)) else (if decide (d.2≠0)=true then (zd b.K_ 0).bind fun i=>some (inl (i.a_,d.2,lit [],lit [],0,0)) else ((C (e.2.2,a.1)).bind fun j=>if j=true then (D e.2).bind fun l=>some (a.1,a.2.1,a.2.2.1,a.2.2.2.1,a.2.2.2.2.1,l.1,kg a.2.2.2.2.2.1,a.2.2.2.2.2.2.1,a.2.2.2.2.2.2.2.1,kg b,l.2.2,l.2.1) else some (a.1,a.2.1,a.2.2.1,a.2.2.2.1,a.2.2.2.2.1,false,kg a.2.2.2.2.2.1,a.2.2.2.2.2.2.1,a.2.2.2.2.2.2.2.1,kg b,e.2.2,e.2.1)).bind fun j=>if j.2.2.2.2.2.1=true then (zd j.2.2.2.2.2.2.2.2.2.1.K_ 0).bind fun l=>some (inl (l.a_,34,lit [],lit [],0,0)) else some (inr (j.1,j.2.1,j.2.2.1,j.2.2.2.1,j.2.2.2.2.1,kg j.2.2.2.2.2.2.1,j.2.2.2.2.2.2.2.1,j.2.2.2.2.2.2.2.2.1,j.2.2.2.2.2.2.2.2.2.2))).bind fun i=>elim (fun j=>some (inl j)) (fun j=>some (inr (j.1,j.2.1,j.2.2.1,j.2.2.2.1,j.2.2.2.2.1,kg j.2.2.2.2.2.1,j.2.2.2.2.2.2))) i).bind fun i=>elim (fun j=>some (Step.done (inl j))) (fun j=>(zp 32 j.2.2.2.2.2.2.2.2.2 [j.2.2.2.2.2.2.2.2.1]).bind fun l=>some (Step.next (j.1,j.2.1,j.2.2.1,j.2.2.2.1,G4 (j.2.2.2.2.1+1),kg j.2.2.2.2.2.1,j.2.2.2.2.2.2.1,j.2.2.2.2.2.2.2.1,l))) i else some (Step.done (inr (a.1,a.2.1,kg a.2.2.2.2.2.1,a.2.2.2.2.2.2)))
def qfn (A:ztb) (B:zhW) (C:zdH->Gj) (D:zhW) (x:vo):G3 zit:=if decide (8 < G4 (x.1.K_.len - 2))=true then some (qd.mk (lit []) (Sl.mk [] false) (qf.mk (lit []) 0 0),x.1.a_,22) else (Zv x.1.K_ 0 (G4 (x.1.K_.len - 2))).bind fun a=>(lpO (qbc A B C D) (x.2,G4 (x.1.K_.len - 2),a,a.len,0,kg x.1,(lit [],lit [],0,0),(x.1.T_,lit [],0,0),Sl.mk [] false)).bind fun b=>elim (fun c=>some (qd.mk c.2.2.1 (Sl.mk [] false) (qf.mk c.2.2.2.1 c.2.2.2.2.1 c.2.2.2.2.2),c.1,c.2.1)) (fun c=>(zd c.2.2.1.K_ c.2.1).bind fun d=>(A (kg d,c.1)).bind fun e=>if decide (e.2≠0)=true then (zd c.2.2.1.K_ c.2.1).bind fun i=>some (qd.mk (lit []) (Sl.mk [] false) (qf.mk (lit []) 0 0),i.a_,e.2) else some (qd.mk c.2.2.2.2.1.1 c.2.2.2.2.2 e.1,0,0)) b
def q9f:vo->G3 zit:=qfn q8n q43 q62 q44
theorem qlp:@Eq ((vo)->G3 zit) P79.F q9f:=by delta q9f;rw [<-qlk,<-qjg,<-ql9,<-qjh];kernel_rfl
def qad (A:zs8):zh2->G3 (Step zh2 (zY⊕Sl qd)):=fun a=>if decide (a.2.2.2.1 < a.2.2.1)=true then ((zd a.2.1 a.2.2.2.1).bind fun b=>if decide (b.k_≠6)=true then some (inl a) else (A (kg b,a.1)).bind fun c=>if decide (c.2.2≠0)=true then some (inr c.2) else (zp 72 a.2.2.2.2 [c.1]).bind fun d=>some (inl (a.1,a.2.1,a.2.2.1,a.2.2.2.1,d))).bind fun b=>elim (fun c=>some (Step.next (c.1,c.2.1,c.2.2.1,G4 (c.2.2.2.1+1),c.2.2.2.2))) (fun c=>some (Step.done (inl c))) b else some (Step.done (inr a.2.2.2.2))
def qec (A:zs8) (x:vo):G3 zim:=(lpO (qad A) (x.2,x.1.K_,x.1.K_.len,0,Sl.mk [] false)).bind fun a=>elim (fun b=>some (b.1,b.2,Sl.mk [] false)) (fun b=>some (0,0,b)) a
def q3y:vo->G3 zim:=qec q9f
theorem qku:@Eq ((vo)->G3 zim) P80.F q3y:=by delta q3y;rw [<-qlp];kernel_rfl
def qc5 (x:Int):Gj:=(if decide (97<=x)=true then if decide (x<=122)=true then some true else some (decide (x=95)) else some (decide (x=95))).bind fun a=>some a
def q2h:Zg:=qc5
theorem qh7:@Eq Zg P81.F q2h:=by kernel_rfl
def qch (x:Int):Gj:=(if decide (48<=x)=true then some (decide (x<=57)) else some false).bind fun a=>some a
def q3g:Zg:=qch
theorem qhy:@Eq Zg P82.F q3g:=by kernel_rfl
def qci (x:Zs):Gj:=(if decide (x=lit [116,121,112,101])=true then some (decide (x=lit [116,121,112,101])) else (if decide (x=lit [102,110])=true then some (decide (x=lit [102,110])) else (if decide (x=lit [111,119,110])=true then some (decide (x=lit [111,119,110])) else (if decide (x=lit [99,101,108,108])=true then some (decide (x=lit [99,101,108,108])) else (if decide (x=lit [99,111,117,110,116,101,100])=true then some (decide (x=lit [99,111,117,110,116,101,100])) else (if decide (x=lit [108,111,99,107])=true then some (decide (x=lit [108,111,99,107])) else (if decide (x=lit [103,117,97,114,100])=true then some (decide (x=lit [103,117,97,114,100])) else (if decide (x=lit [119,104,101,114,101])=true then some (decide (x=lit [119,104,101,114,101])) else (if decide (x=lit [105,110,116])=true then some (decide (x=lit [105,110,116])) else (if decide (x=lit [109,117,116])=true then some (decide (x=lit [109,117,116])) else (if decide (x=lit [102,114,101,101])=true then some (decide (x=lit [102,114,101,101])) else (if decide (x=lit [117,110,108,111,99,107])=true then some (decide (x=lit [117,110,108,111,99,107])) else (if decide (x=lit [105,102])=true then some (decide (x=lit [105,102])) else (if decide (x=lit [101,108,115,101])=true then some (decide (x=lit [101,108,115,101])) else (if decide (x=lit [119,104,105,108,101])=true then some (decide (x=lit [119,104,105,108,101])) else (if decide (x=lit [114,101,116,117,114,110])=true then some (decide (x=lit [114,101,116,117,114,110])) else (if decide (x=lit [97,98,111,114,116])=true then some (decide (x=lit [97,98,111,114,116])) else (if decide (x=lit [102,111,114,107])=true then some (decide (x=lit [102,111,114,107])) else (if decide (x=lit [110,101,119])=true then some (decide (x=lit [110,101,119])) else some (decide (x=lit [97,114,114,97,121]))).bind fun a=>some a).bind fun a=>some a).bind fun a=>some a).bind fun a=>some a).bind fun a=>some a).bind fun a=>some a).bind fun a=>some a).bind fun a=>some a).bind fun a=>some a).bind fun a=>some a).bind fun a=>some a).bind fun a=>some a).bind fun a=>some a).bind fun a=>some a).bind fun a=>some a).bind fun a=>some a).bind fun a=>some a).bind fun a=>some a).bind fun a=>if a=true then some true else some false
def q2z:WD:=qci
theorem qhz:@Eq WD P83.F q2z:=by kernel_rfl
def qa9 (x:Zc):Ga:=(if decide (G4 (x.2+1) < (↑(ByteArray.size x.1):Int))=true then (ZB x.1 x.2 (G4 (x.2+2))).bind fun a=>some (x.1,x.2,a) else some (x.1,x.2,lit [])).bind fun a=>(if decide (a.2.2=lit [45,62])=true then some (a.1,a.2.1,true) else if decide (a.2.2=lit [60,61])=true then some (a.1,a.2.1,true) else some (a.1,a.2.1,decide (a.2.2=lit [61,61]))).bind fun b=>if b.2.2=true then some 2 else (Zb b.1 b.2.1).bind fun c=>(if decide (c=123)=true then some (decide (c=123)) else (if decide (c=125)=true then some (decide (c=125)) else (if decide (c=40)=true then some (decide (c=40)) else (if decide (c=41)=true then some (decide (c=41)) else (if decide (c=91)=true then some (decide (c=91)) else (if decide (c=93)=true then some (decide (c=93)) else (if decide (c=44)=true then some (decide (c=44)) else (if decide (c=58)=true then some (decide (c=58)) else (if decide (c=59)=true then some (decide (c=59)) else (if decide (c=61)=true then some (decide (c=61)) else (if decide (c=43)=true then some (decide (c=43)) else (if decide (c=45)=true then some (decide (c=45)) else (if decide (c=38)=true then some (decide (c=38)) else some (decide (c=60))).bind fun d=>some d).bind fun d=>some d).bind fun d=>some d).bind fun d=>some d).bind fun d=>some d).bind fun d=>some d).bind fun d=>some d).bind fun d=>some d).bind fun d=>some d).bind fun d=>some d).bind fun d=>some d).bind fun d=>some d).bind fun d=>if d=true then some 1 else some 0
def q37:Zc->Ga:=qa9
theorem qiq:@Eq ((Zc)->G3 Int) P84.F q37:=by kernel_rfl
def q5p (A:Zg) (B:Zg) (C:WD) (D:wS):zfH->G3 (Step zfH zfH):=fun a=>if decide (a.2.2.1 < (↑(ByteArray.size a.1):Int))=true then (Zb a.1 a.2.2.1).bind fun b=>(A b).bind fun c=>(Zb a.1 a.2.2.1).bind fun d=>(B d).bind fun e=>(if (!c)=true then some (a.1,a.2.1,a.2.2.1, !e,a.2.2.2) else some (a.1,a.2.1,a.2.2.1,false,a.2.2.2)).bind fun i=>if i.2.2.2.1=true then some (Step.done (i.1,i.2.1,i.2.2.1,i.2.2.2.2)) else some (Step.next (i.1,i.2.1,G4 (i.2.2.1+1),i.2.2.2.2)) else some (Step.done a)
def q5q (A:Zg) (B:Zg) (C:WD) (D:wS):VT->G3 (Step VT VT):=fun a=>if decide (a.2.2.1 < (↑(ByteArray.size a.1):Int))=true then (Zb a.1 a.2.2.1).bind fun b=>(B b).bind fun c=>if (!c)=true then some (Step.done a) else (if decide (a.2.2.2.1<=1099511627776)=true then (Zb a.1 a.2.2.1).bind fun d=>some (a.1,a.2.1,a.2.2.1,G4 (G4 (a.2.2.2.1 * 10)+G4 (IntKind.u8.wrap (d - 48))),a.2.2.2.2) else some a).bind fun d=>(if decide (1099511627776 < d.2.2.2.1)=true then some (d.1,d.2.1,d.2.2.1,d.2.2.2.1,true,d.2.2.2.2.2) else some d).bind fun e=>some (Step.next (e.1,e.2.1,G4 (e.2.2.1+1),e.2.2.2)) else some (Step.done a)
def qao (A:Zg) (B:Zg) (C:WD) (D:wS) (x:Zc):G3 (q9×Int):=(Zb x.1 x.2).bind fun a=>(A a).bind fun b=>(Zb x.1 x.2).bind fun c=>(B c).bind fun d=>(if b=true then (lpO (q5p A B C D) (x.1,x.2,x.2,q9.mk 0 (lit []) 0 0,q9.mk 0 (lit []) 0 x.2)).bind fun e=>(ZB e.1 e.2.1 e.2.2.1).bind fun i=>if decide (16 < (↑i.size:Int))=true then some (inl (13,q9.mk 0 (lit []) 0 0)) else (C i).bind fun j=>(if j=true then some (e.2.2.2.1,q9.mk 2 i e.2.2.2.2.n_ e.2.2.2.2.a_) else some (e.2.2.2.1,q9.mk 1 i e.2.2.2.2.n_ e.2.2.2.2.a_)).bind fun l=>some (inl (0,l.2)) else some (inr (x.1,x.2,x.2,d,q9.mk 0 (lit []) 0 0,q9.mk 0 (lit []) 0 x.2))).bind fun e=>elim (fun i=>some (i.2,i.1)) (fun i=>(if i.2.2.2.1=true then (lpO (q5q A B C D) (i.1,i.2.1,i.2.2.1,0,false,i.2.2.2.2)).bind fun j=>(if decide (j.2.2.1 < (↑(ByteArray.size j.1):Int))=true then (Zb j.1 j.2.2.1).bind fun l=>(A l).bind fun m=>some (j.1,j.2.1,j.2.2.1,j.2.2.2.1,j.2.2.2.2.1,m,j.2.2.2.2.2) else some (j.1,j.2.1,j.2.2.1,j.2.2.2.1,j.2.2.2.2.1,false,j.2.2.2.2.2)).bind fun l=>(if l.2.2.2.2.1=true then some (l.1,l.2.1,l.2.2.1,l.2.2.2.1,true,l.2.2.2.2.2.2) else if l.2.2.2.2.2.1=true then some (l.1,l.2.1,l.2.2.1,l.2.2.2.1,true,l.2.2.2.2.2.2) else (Zb l.1 l.2.1).bind fun m=>if decide (m=48)=true then some (l.1,l.2.1,l.2.2.1,l.2.2.2.1,decide (G4 (l.2.1+1) < l.2.2.1),l.2.2.2.2.2.2) else some (l.1,l.2.1,l.2.2.1,l.2.2.2.1,false,l.2.2.2.2.2.2)).bind fun m=>if m.2.2.2.2.1=true then some (inl (12,q9.mk 0 (lit []) 0 0)) else (ZB m.1 m.2.1 m.2.2.1).bind fun n=>some (inl (0,q9.mk 3 n m.2.2.2.1 m.2.2.2.2.2.2.a_)) else some (inr (i.1,i.2.1,i.2.2.2.2))).bind fun j=>elim (fun l=>some (l.2,l.1)) (fun l=>(D (l.1,l.2.1)).bind fun m=>if decide (m=0)=true then some (q9.mk 0 (lit []) 0 0,11) else (ZB l.1 l.2.1 (G4 (l.2.1+m))).bind fun n=>some (q9.mk 4 n l.2.2.2.n_ l.2.2.2.a_,0)) j) e
def q4u:Zc->G3 (q9×Int):=qao q2h q3g q2z q37
theorem qji:@Eq ((Zc)->G3 (q9×Int)) P85.F q4u:=by delta q4u;rw [<-qh7,<-qhy,<-qhz,<-qiq];kernel_rfl
def q64 (A:znW):vj->G3 (Step vj vj):=fun a=>(if decide (a.2.1 < (↑(ByteArray.size a.1):Int))=true then (Zb a.1 a.2.1).bind fun b=>some (a.1,a.2.1,decide (b≠10),a.2.2) else some (a.1,a.2.1,false,a.2.2)).bind fun b=>if b.2.2.1=true then some (Step.next (b.1,G4 (b.2.1+1),b.2.2.2)) else some (Step.done (b.1,b.2.1,b.2.2.2))
def q65 (A:znW):vj->G3 (Step vj zte):=fun a=>if decide (a.2.1 < (↑(ByteArray.size a.1):Int))=true then (((Zb a.1 a.2.1).bind fun b=>if decide (b=32)=true then some (a.1,a.2.1,true,a.2.2) else (Zb a.1 a.2.1).bind fun c=>some (a.1,a.2.1,decide (c=10),a.2.2)).bind fun b=>if b.2.2.1=true then some (inl (b.1,G4 (b.2.1+1),b.2.2.2)) else (Zb b.1 b.2.1).bind fun c=>if decide (c=35)=true then (lpO (q64 A) (b.1,b.2.1,b.2.2.2)).bind fun d=>some (inl d) else (A (b.1,b.2.1)).bind fun e=>if decide (e.2≠0)=true then some (inr (b.2.1,e.2)) else (zp 40 b.2.2.2 [e.1]).bind fun i=>some (inl (b.1,G4 (b.2.1+(↑e.1.T_.size:Int)),i))).bind fun b=>elim (fun c=>some (Step.next c)) (fun c=>some (Step.done (inl c))) b else some (Step.done (inr (a.1,a.2.2)))
def q91 (A:znW) (x:Zs):G3 (Int×Int×Gq):=if decide (16384 < (↑x.size:Int))=true then some (0,10,Sl.mk [] false) else (lpO (q65 A) (x,0,Sl.mk [] false)).bind fun a=>elim (fun b=>some (b.1,b.2,Sl.mk [] false)) (fun b=>(zp 40 b.2 [q9.mk 0 (lit []) 0 (↑(ByteArray.size b.1):Int)]).bind fun c=>some (0,0,c)) a
def q50:zhY:=q91 q4u
theorem qh8:@Eq zhY P86.F q50:=by delta q50;rw [<-qji];kernel_rfl
def q8w (x:Y0):G3 zS:=(zd x.2.2 x.2.1.1).bind fun a=>(zd x.2.2 x.2.1.1).bind fun b=>(if decide (x.2.1.2.2.1=0)=true then if decide (b.k_=2)=true then (zd x.2.2 x.2.1.1).bind fun c=>(zd x.2.2 x.2.1.1).bind fun d=>some (decide (d.T_=x.1),x.2) else if decide (b.k_=4)=true then (zd x.2.2 x.2.1.1).bind fun e=>(zd x.2.2 x.2.1.1).bind fun i=>some (decide (i.T_=x.1),x.2) else some (false,x.2) else some (false,x.2)).bind fun c=>some c
def q1i:Y0->G3 zS:=q8w
theorem q5o:@Eq ((Y0)->G3 zS) P87.F q1i:=by kernel_rfl
def q8a (A:Z6) (x:Y0):G3 zS:=(A x).bind fun a=>(if a.1=true then some (a.1,(G4 (a.2.1.1+1),a.2.1.2),a.2.2) else some a).bind fun b=>some b
def qu:Y0->G3 zS:=q8a q1i
theorem q1j:@Eq ((Y0)->G3 zS) P88.F qu:=by delta qu;rw [<-q5o];kernel_rfl
def q7c (x:yV):G3 zB:=(if decide (x.2.1.2.2.1=0)=true then (zd x.2.2 x.2.1.1).bind fun a=>(zd x.2.2 x.2.1.1).bind fun b=>some ((x.2.1.1,x.2.1.2.1,x.1,b.a_),x.2.2) else some x.2).bind fun a=>some a
def q15:yV->G3 zB:=q7c
theorem q3t:@Eq ((yV)->G3 zB) P89.F q15:=by kernel_rfl
def q7e (A:Vn) (x:zB):G3 yU:=(zd x.2 x.1.1).bind fun a=>(zd x.2 x.1.1).bind fun b=>(if decide (x.1.2.2.1≠0)=true then some (true,x.1,x.2,(0,lit [],0,0),b) else some (decide (b.k_≠1),x.1,x.2,(0,lit [],0,0),b)).bind fun (c:Bool×(Int×Int×Int×Int)×Sl q9×(Int×G0×Int×Int)×q9)=>if c.1=true then (A (20,c.2.1,c.2.2.1)).bind fun d=>some ((0,lit [],0,0),d) else some ((5,c.2.2.2.2.T_,0,c.2.2.2.2.a_),(G4 (c.2.1.1+1),c.2.1.2),c.2.2.1)
def q11:zB->G3 yU:=q7e q15
theorem q2v:@Eq ((zB)->G3 yU) P90.F q11:=by delta q11;rw [<-q3t];kernel_rfl
def q7d (A:Z6) (B:Vn) (x:Y0):G3 zB:=(A x).bind fun a=>(if (!a.1)=true then (B (20,a.2)).bind fun b=>some b else some a.2).bind fun b=>some b
def qy:Y0->G3 zB:=q7d qu q15
theorem q2k:@Eq ((Y0)->G3 zB) P91.F qy:=by delta qy;rw [<-q1j,<-q3t];kernel_rfl
def q7i (A:Z6) (B:XI) (C:Ws) (x:zB):G3 Zq:=(zd x.2 x.1.1).bind fun a=>(zd x.2 x.1.1).bind fun b=>(zd x.2 x.1.1).bind fun c=>(zd x.2 x.1.1).bind fun d=>(A (lit [105,110,116],x)).bind fun e=>if e.1=true then some (q6.mk 8 b.T_ 0 d.a_ (Sl.mk [] false),e.2) else (A (lit [111,119,110],e.2)).bind fun i=>(if (!i.1)=true then (B (lit [38],i.2)).bind fun j=>(A (lit [109,117,116],j)).bind fun l=>(if l.1=true then some (l.2.1,l.2.2,(0,lit [],0,0),8,lit [38,109,117,116],0,d.a_) else some (l.2.1,l.2.2,(0,lit [],0,0),8,b.T_,0,d.a_)).bind fun (m:zkl)=>some m else some (i.2.1,i.2.2,(0,lit [],0,0),8,b.T_,0,d.a_)).bind fun (j:zkl)=>(C (j.1,j.2.1)).bind fun l=>some (q6.mk j.2.2.2.1 j.2.2.2.2.1 j.2.2.2.2.2.1 j.2.2.2.2.2.2 (Sl.mk [q6.mk l.1.1 l.1.2.1 l.1.2.2.1 l.1.2.2.2 (Sl.mk [] false)] true),l.2)
def q2s:zB->G3 Zq:=q7i qu qy q11
theorem qir:@Eq ((zB)->G3 Zq) P92.F q2s:=by delta q2s;rw [<-q1j,<-q2k,<-q2v];kernel_rfl
def q66 (A:Vn) (x:zB):G3 yV:=(zd x.2 x.1.1).bind fun a=>(zd x.2 x.1.1).bind fun b=>(if decide (x.1.2.2.1≠0)=true then some (true,x.1,x.2,b) else some (decide (b.k_≠3),x.1,x.2,b)).bind fun c=>if c.1=true then (A (20,c.2.1,c.2.2.1)).bind fun d=>some (0,d) else some (c.2.2.2.n_,(G4 (c.2.1.1+1),c.2.1.2),c.2.2.1)
def q25:zB->G3 yV:=q66 q15
theorem q6t:@Eq ((zB)->G3 yV) P93.F q25:=by delta q25;rw [<-q3t];kernel_rfl
def q7f (A:Z6) (B:zns) (x:Zq):G3 Zq:=(A (lit [43],x.2)).bind fun a=>if a.1=true then (B a.2).bind fun b=>some (q6.mk x.1.k_ x.1.T_ b.1 x.1.a_ x.1.K_,b.2) else (A (lit [45],a.2)).bind fun c=>(if c.1=true then (B c.2).bind fun d=>some (d.2.1,d.2.2,q6.mk x.1.k_ x.1.T_ (G4 (0 - d.1)) x.1.a_ x.1.K_,0,lit [],0,0) else some (c.2.1,c.2.2,kr x.1,0,lit [],0,0)).bind fun (d:(Int×Int×Int×Int)×Sl q9×q6×Int×G0×Int×Int)=>some (kr d.2.2.1,d.1,d.2.1)
def q1x:Zq->G3 Zq:=q7f qu q25
theorem qel:@Eq ((Zq)->G3 Zq) P94.F q1x:=by delta q1x;rw [<-q1j,<-q6t];kernel_rfl
def q7g (A:zns) (B:Z6) (C:Ws) (D:zwq) (x:zB):G3 Zq:=(zd x.2 x.1.1).bind fun a=>(zd x.2 x.1.1).bind fun b=>(zd x.2 x.1.1).bind fun c=>(zd x.2 x.1.1).bind fun d=>if decide (d.k_=3)=true then (A x).bind fun e=>some (q6.mk 5 (lit []) e.1 b.a_ (Sl.mk [] false),e.2) else (B (lit [45],x)).bind fun i=>if i.1=true then (A i.2).bind fun j=>some (q6.mk 5 (lit []) (G4 (0 - j.1)) b.a_ (Sl.mk [] false),j.2) else (C i.2).bind fun l=>(D (q6.mk l.1.1 l.1.2.1 l.1.2.2.1 l.1.2.2.2 (Sl.mk [] false),l.2)).bind fun m=>some (kr m.1,m.2)
def q1l:zB->G3 Zq:=q7g q25 qu q11 q1x
theorem q5x:@Eq ((zB)->G3 Zq) P95.F q1l:=by delta q1l;rw [<-q6t,<-q1j,<-q2v,<-qel];kernel_rfl
def q5s (A:Z6) (B:Vn):znH->G3 (Step znH zsD):=fun a=>if decide (a.1 < Sl.len a.2.2.2)=true then (zd a.2.2.2 a.1).bind fun b=>(zd a.2.2.2 a.1).bind fun c=>(A (c,a.2.1,a.2.2.1)).bind fun d=>if d.1=true then (zd a.2.2.2 a.1).bind fun e=>(zd a.2.2.2 a.1).bind fun i=>some (Step.done (inl (i,d.2))) else some (Step.next (G4 (a.1+1),d.2.1,d.2.2,a.2.2.2)) else some (Step.done (inr (a.2.1,a.2.2.1)))
def q8b (A:Z6) (B:Vn) (x:zB):G3 Y0:=(lpO (q5s A B) (0,x.1,x.2,Sl.mk [lit [60],lit [60,61],lit [61,61]] true)).bind fun a=>elim (fun b=>some b) (fun b=>(B (20,b)).bind fun c=>some (lit [],c)) a
def q4v:zB->G3 Y0:=q8b qu q15
theorem qjj:@Eq ((zB)->G3 Y0) P96.F q4v:=by delta q4v;rw [<-q1j,<-q3t];kernel_rfl
def q59 (A:W0) (B:zB->G3 Y0) (x:zB):G3 ZA:=(A x).bind fun a=>(B a.2).bind fun b=>(A b.2).bind fun c=>some ((4,b.1,0,a.1.a_),c.2.1,c.2.2,Sl.mk [kr a.1,kr c.1] true)
def q1m:Yj:=q59 q1l q4v
theorem qem:@Eq Yj P97.F q1m:=by delta q1m;rw [<-q5x,<-qjj];kernel_rfl
def q45 (A:XI) (B:Z6) (C:W0):znQ->G3 (Step znQ VW):=fun a=>(B (lit [44],a.1,a.2.1)).bind fun b=>if (!b.1)=true then some (Step.done (b.2.1,b.2.2,a.2.2.2)) else (C b.2).bind fun c=>(zp 64 a.2.2.2 [kr c.1]).bind fun d=>some (Step.next (c.2.1,c.2.2,kr c.1,d))
def q7h (A:XI) (B:Z6) (C:W0) (x:zB):G3 VW:=(A (lit [40],x)).bind fun a=>(B (lit [41],a)).bind fun b=>(if b.1=true then some (true,b.2) else some (decide (b.2.1.2.2.1≠0),b.2)).bind fun c=>if c.1=true then some (c.2.1,c.2.2,Sl.mk [] false) else (C c.2).bind fun d=>(lpO (q45 A B C) (d.2.1,d.2.2,kr d.1,Sl.mk [kr d.1] true)).bind fun e=>(A (lit [41],e.1,e.2.1)).bind fun i=>some (i.1,i.2,e.2.2)
def q2r:zB->G3 VW:=q7h qy qu q1l
theorem qb2:@Eq ((zB)->G3 VW) P98.F q2r:=by delta q2r;rw [<-q2k,<-q1j,<-q5x];kernel_rfl
def q7j (A:Z6) (B:zns) (C:Ws) (D:W0) (E:Z6) (G:zsb) (H:XI) (I:zwq) (x:zB):G3 Zq:=(zd x.2 x.1.1).bind fun a=>(zd x.2 x.1.1).bind fun b=>(A (lit [110,101,119],x)).bind fun c=>if c.1=true then (B c.2).bind fun d=>some (q6.mk 23 (lit []) d.1 b.a_ (Sl.mk [] false),d.2) else (A (lit [97,114,114,97,121],c.2)).bind fun e=>if e.1=true then (C e.2).bind fun i=>some (q6.mk 24 i.1.2.1 0 b.a_ (Sl.mk [] false),i.2) else (A (lit [38],e.2)).bind fun j=>if j.1=true then (A (lit [109,117,116],j.2)).bind fun l=>(if l.1=true then some (l.2.1,l.2.2,(0,lit [],0,0),27,lit [],0,b.a_) else some (l.2.1,l.2.2,(0,lit [],0,0),26,lit [],0,b.a_)).bind fun (m:zkl)=>(C (m.1,m.2.1)).bind fun n=>some (q6.mk m.2.2.2.1 n.1.2.1 m.2.2.2.2.2.1 m.2.2.2.2.2.2 (Sl.mk [] false),n.2) else (zd j.2.2 j.2.1.1).bind fun o=>(zd j.2.2 j.2.1.1).bind fun p=>if decide (p.k_≠1)=true then (D j.2).bind fun r=>some (kr r.1,r.2) else (C j.2).bind fun s=>(E (lit [40],s.2)).bind fun t=>if t.1=true then (G t.2).bind fun u=>some (q6.mk 28 s.1.2.1 s.1.2.2.1 s.1.2.2.2 u.2.2,u.1,u.2.1) else (A (lit [91],t.2)).bind fun v=>if v.1=true then (D v.2).bind fun w=>(H (lit [93],w.2)).bind fun z=>some (q6.mk 25 s.1.2.1 s.1.2.2.1 s.1.2.2.2 (Sl.mk [kr w.1] true),z) else (E (lit [43],v.2)).bind fun J=>(E (lit [45],J.2)).bind fun K=>(if J.1=true then (zd K.2.2 (G4 (K.2.1.1+1))).bind fun L=>(zd K.2.2 (G4 (K.2.1.1+1))).bind fun P=>some (K.1,decide (P.k_=1),K.2.1,K.2.2,(0,lit [],0,0),s.1) else if K.1=true then (zd K.2.2 (G4 (K.2.1.1+1))).bind fun Q=>(zd K.2.2 (G4 (K.2.1.1+1))).bind fun R=>some (K.1,decide (R.k_=1),K.2.1,K.2.2,(0,lit [],0,0),s.1) else some (K.1,false,K.2.1,K.2.2,(0,lit [],0,0),s.1)).bind fun (L:Bool×Bool×(Int×Int×Int×Int)×Sl q9×(Int×G0×Int×Int)×Int×G0×Int×Int)=>if L.2.1=true then (C ((G4 (L.2.2.1.1+1),L.2.2.1.2),L.2.2.2.1)).bind fun P=>(if L.1=true then some (P.2.1,P.2.2,L.2.2.2.2.1,(22,lit [],0,L.2.2.2.2.2.2.2.2),Sl.mk [q6.mk L.2.2.2.2.2.1 L.2.2.2.2.2.2.1 L.2.2.2.2.2.2.2.1 L.2.2.2.2.2.2.2.2 (Sl.mk [] false),q6.mk P.1.1 P.1.2.1 P.1.2.2.1 P.1.2.2.2 (Sl.mk [] false)] true) else some (P.2.1,P.2.2,L.2.2.2.2.1,(21,lit [],0,L.2.2.2.2.2.2.2.2),Sl.mk [q6.mk L.2.2.2.2.2.1 L.2.2.2.2.2.2.1 L.2.2.2.2.2.2.2.1 L.2.2.2.2.2.2.2.2 (Sl.mk [] false),q6.mk P.1.1 P.1.2.1 P.1.2.2.1 P.1.2.2.2 (Sl.mk [] false)] true)).bind fun (Q:xm)=>some (q6.mk Q.2.2.2.1.1 Q.2.2.2.1.2.1 Q.2.2.2.1.2.2.1 Q.2.2.2.1.2.2.2 Q.2.2.2.2,Q.1,Q.2.1) else (I (q6.mk L.2.2.2.2.2.1 L.2.2.2.2.2.2.1 L.2.2.2.2.2.2.2.1 L.2.2.2.2.2.2.2.2 (Sl.mk [] false),L.2.2.1,L.2.2.2.1)).bind fun R=>some (kr R.1,R.2)
def q4j:zB->G3 Zq:=q7j qu q25 q11 q1l q1i q2r qy q1x
theorem qis:@Eq ((zB)->G3 Zq) P99.F q4j:=by delta q4j;rw [<-q1j,<-q6t,<-q2v,<-q5x,<-q5o,<-qb2,<-q2k,<-qel];kernel_rfl
def q9o (A:Ws) (B:Z6) (C:zsb) (D:Z6) (E:W0) (G:XI) (H:W0) (x:zB):G3 ZA:=(A x).bind fun a=>(B (lit [40],a.2)).bind fun b=>if b.1=true then (C b.2).bind fun c=>some ((20,lit [],0,a.1.2.2.2),c.1,c.2.1,Sl.mk [q6.mk 28 a.1.2.1 a.1.2.2.1 a.1.2.2.2 c.2.2] true) else (D (lit [91],b.2)).bind fun d=>if d.1=true then (E d.2).bind fun e=>(G (lit [93],e.2)).bind fun i=>(G (lit [61],i)).bind fun j=>(E j).bind fun l=>some ((11,a.1.2),l.2.1,l.2.2,Sl.mk [kr e.1,kr l.1] true) else (G (lit [61],d.2)).bind fun m=>(H m).bind fun n=>some ((10,a.1.2),n.2.1,n.2.2,Sl.mk [kr n.1] true)
def q5a:Yj:=q9o q11 q1i q2r qu q1l qy q4j
theorem qi0:@Eq Yj zmC.F q5a:=by delta q5a;rw [<-q2v,<-q5o,<-qb2,<-q1j,<-q5x,<-q2k,<-qis];kernel_rfl
def q3m (A:wQ) (B:wQ) (x:zdr):G3 ZA:=(A x.2.2).bind fun a=>(B (a.2.1,a.2.2.1)).bind fun b=>(zp 64 a.2.2.2 [q6.mk b.1.1 b.1.2.1 b.1.2.2.1 b.1.2.2.2 b.2.2.2]).bind fun c=>some ((x.1,a.1.2.1,a.1.2.2.1,x.2.1),b.2.1,b.2.2.1,c)
def q1n (h:Yj):zdr->G3 ZA:=q3m q1m h
theorem qc6 (h:Yj):@Eq ((zdr)->G3 ZA) (zhy h) (q1n h):=by delta q1n;rw [<-qem];kernel_rfl
def q5b (A:zdr->G3 ZA) (B:Z6) (C:wQ) (D:Ws) (E:XI) (G:zns) (H:Z6) (I:W0) (J:zsb) (K:wQ) (x:zB):G3 ZA:=(zd x.2 x.1.1).bind fun a=>(zd x.2 x.1.1).bind fun b=>(zd x.2 x.1.1).bind fun c=>(zd x.2 x.1.1).bind fun d=>(if decide (d.k_=2)=true then (zd x.2 x.1.1).bind fun e=>(zd x.2 x.1.1).bind fun i=>some (b.a_,i.T_,x.1,x.2,0,lit [],0,0) else some (b.a_,lit [],x.1,x.2,0,lit [],0,0)).bind fun (e:Int×G0×(Int×Int×Int×Int)×Sl q9×Int×G0×Int×Int)=>(if decide (e.2.1=lit [105,102])=true then (A (15,e.1,(G4 (e.2.2.1.1+1),e.2.2.1.2),e.2.2.2.1)).bind fun i=>(B (lit [101,108,115,101],i.2.1,i.2.2.1)).bind fun j=>(if j.1=true then (C j.2).bind fun l=>some (l.2.1,l.2.2.1,e.2.2.2.2,i.1,l.1,i.2.2.2,l.2.2.2) else some (j.2.1,j.2.2,e.2.2.2.2,i.1,(9,lit [],0,e.1),i.2.2.2,Sl.mk [] false)).bind fun (l:(Int×Int×Int×Int)×Sl q9×(Int×G0×Int×Int)×(Int×G0×Int×Int)×(Int×G0×Int×Int)×Sl q6×Sl q6)=>(zp 64 l.2.2.2.2.2.1 [q6.mk l.2.2.2.2.1.1 l.2.2.2.2.1.2.1 l.2.2.2.2.1.2.2.1 l.2.2.2.2.1.2.2.2 l.2.2.2.2.2.2]).bind fun m=>some (inl (l.1,l.2.1,l.2.2.2.1,m)) else if decide (e.2.1=lit [119,104,105,108,101])=true then (A (16,e.1,(G4 (e.2.2.1.1+1),e.2.2.1.2),e.2.2.2.1)).bind fun n=>some (inl (n.2.1,n.2.2.1,n.1,n.2.2.2)) else (if decide (e.2.1=lit [102,114,101,101])=true then (D ((G4 (e.2.2.1.1+1),e.2.2.1.2),e.2.2.2.1)).bind fun o=>some (o.2.1,o.2.2,e.2.2.2.2,(12,o.1.2.1,0,e.1),Sl.mk [] false) else (if decide (e.2.1=lit [108,111,99,107])=true then some (e.2.1,e.2.1,decide (e.2.1=lit [108,111,99,107]),e.2.2.1,e.2.2.2.1,e.2.2.2.2,0,lit [],0,e.1) else some (e.2.1,e.2.1,decide (e.2.1=lit [117,110,108,111,99,107]),e.2.2.1,e.2.2.2.1,e.2.2.2.2,0,lit [],0,e.1)).bind fun (p:G0×G0×Bool×(Int×Int×Int×Int)×Sl q9×(Int×G0×Int×Int)×Int×G0×Int×Int)=>(if p.2.2.1=true then (D ((G4 (p.2.2.2.1.1+1),p.2.2.2.1.2),p.2.2.2.2.1)).bind fun r=>(if decide (p.1=lit [117,110,108,111,99,107])=true then some (r.2.1,r.2.2,p.2.2.2.2.2.1,(14,p.2.2.2.2.2.2.2),r.1) else some (r.2.1,r.2.2,p.2.2.2.2.2.1,(13,p.2.2.2.2.2.2.2),r.1)).bind fun (s:(Int×Int×Int×Int)×Sl q9×(Int×G0×Int×Int)×(Int×G0×Int×Int)×Int×G0×Int×Int)=>(E (lit [91],s.1,s.2.1)).bind fun t=>(G t).bind fun u=>(E (lit [93],u.2)).bind fun v=>some (v.1,v.2,s.2.2.1,(s.2.2.2.1.1,s.2.2.2.2.2.1,u.1,s.2.2.2.1.2.2.2),Sl.mk [] false) else (if decide (p.2.1=lit [114,101,116,117,114,110])=true then (H (lit [59],(G4 (p.2.2.2.1.1+1),p.2.2.2.1.2),p.2.2.2.2.1)).bind fun w=>(if (!w.1)=true then (I w.2).bind fun z=>some (z.2.1,z.2.2,p.2.2.2.2.2.1,(17,p.2.2.2.2.2.2.2),Sl.mk [kr z.1] true) else some (w.2.1,w.2.2,p.2.2.2.2.2.1,(17,p.2.2.2.2.2.2.2),Sl.mk [] false)).bind fun (z:xm)=>some z else (if decide (p.2.1=lit [97,98,111,114,116])=true then some ((G4 (p.2.2.2.1.1+1),p.2.2.2.1.2),p.2.2.2.2.1,p.2.2.2.2.2.1,(18,p.2.2.2.2.2.2.2),Sl.mk [] false) else (if decide (p.2.1=lit [102,111,114,107])=true then (D ((G4 (p.2.2.2.1.1+1),p.2.2.2.1.2),p.2.2.2.2.1)).bind fun L=>(J L.2).bind fun P=>some (P.1,P.2.1,p.2.2.2.2.2.1,(19,L.1.2.1,p.2.2.2.2.2.2.2.2),P.2.2) else (K (p.2.2.2.1,p.2.2.2.2.1)).bind fun Q=>some (Q.2.1,Q.2.2.1,p.2.2.2.2.2.1,Q.1,Q.2.2.2)).bind fun (L:xm)=>some L).bind fun (L:xm)=>some L).bind fun (w:xm)=>some w).bind fun (r:xm)=>some r).bind fun (o:xm)=>some (inr o)).bind fun (i:(Int×Int×Int×Int)×Sl q9×(Int×G0×Int×Int)×Sl q6⊕(Int×Int×Int×Int)×Sl q9×(Int×G0×Int×Int)×(Int×G0×Int×Int)×Sl q6)=>elim (fun j=>some (j.2.2.1,j.1,j.2.1,j.2.2.2)) (fun j=>(E (lit [59],j.1,j.2.1)).bind fun l=>some (j.2.2.2.1,l.1,l.2,j.2.2.2.2)) i
def q2n (h:Yj):Yj:=q5b (q1n h) qu h q11 qy q25 q1i q1l q2r q5a
theorem qdm (h:Yj):@Eq Yj (zhz h) (q2n h):=by delta q2n;rw [<-qc6 h,<-q1j,<-q2v,<-q2k,<-q6t,<-q5o,<-q5x,<-qb2,<-qi0];kernel_rfl
def q3b (A:Z6) (B:Vn) (C:XI) (D:Z6) (E:wQ):xm->G3 (Step xm xm):=fun a=>if decide (a.1.2.2.1=0)=true then (D (lit [125],a.1,a.2.1)).bind fun b=>if b.1=true then some (Step.done (b.2.1,b.2.2,a.2.2)) else (E b.2).bind fun c=>(zp 64 a.2.2.2.2 [q6.mk c.1.1 c.1.2.1 c.1.2.2.1 c.1.2.2.2 c.2.2.2]).bind fun d=>some (Step.next (c.2.1,c.2.2.1,a.2.2.1,a.2.2.2.1,d)) else some (Step.done a)
def q26 (A:Z6) (B:Vn) (C:XI) (D:Z6) (E:wQ) (x:zB):G3 ZA:=(zd x.2 x.1.1).bind fun a=>(zd x.2 x.1.1).bind fun b=>(A (lit [123],x)).bind fun c=>(if c.1=true then some (decide (8<=c.2.1.2.1),c.2.1,c.2.2,(0,lit [],0,0),9,lit [],0,b.a_) else some (false,c.2.1,c.2.2,(0,lit [],0,0),9,lit [],0,b.a_)).bind fun d=>(if d.1=true then (B (21,d.2.1,d.2.2.1)).bind fun e=>some (e.1,e.2,d.2.2.2) else some d.2).bind fun e=>(C (lit [123],e.1,e.2.1)).bind fun i=>(lpO (q3b A B C D E) ((i.1.1,G4 (i.1.2.1+1),i.1.2.2),i.2,e.2.2.1,e.2.2.2,Sl.mk [] false)).bind fun j=>some (j.2.2.2.1,(j.1.1,G4 (j.1.2.1 - 1),j.1.2.2),j.2.1,j.2.2.2.2)
def q6u (h:Yj):Yj:=q26 q1i q15 qy qu (q2n h)
theorem qh9 (h:Yj):@Eq Yj (zhA h) (q6u h):=by delta q6u;rw [<-q5o,<-q3t,<-q2k,<-q1j,<-qdm h];kernel_rfl
def q3a:Nat->zB->G3 ZA
  |0=>fun _=>none
  |k+1=>q6u (q3a k)
theorem q6v:∀ k,@Eq Yj (zfb k) (q3a k)
  |0=>rfl
  |k+1=>(qh9 (zfb k)).trans (congrArg q6u (q6v k))
def q46:Yj:=q3a 100000
theorem qi1:@Eq Yj zu3 q46:=q6v 100000
def q8x (A:Ws) (B:XI) (C:Z6) (D:W0) (E:Z6) (G:Vn) (H:wQ):Vm->G3 (Step Vm xm):=fun a=>(if (!a.1)=true then some (a.1,decide (a.2.1.2.2.1=0),a.2) else some (a.1,false,a.2)).bind fun (b:Bool×Bool×(Int×Int×Int×Int)×Sl q9×(Int×G0×Int×Int)×(Int×G0×Int×Int)×Sl q6)=>if b.2.1=true then (A (b.2.2.1,b.2.2.2.1)).bind fun c=>(B (lit [58],c.2)).bind fun d=>(D d).bind fun e=>(zp 64 b.2.2.2.2.2.2 [q6.mk 7 c.1.2.1 c.1.2.2.1 c.1.2.2.2 (Sl.mk [kr e.1] true)]).bind fun i=>(C (lit [44],e.2)).bind fun j=>(if (!j.1)=true then (B (lit [41],j.2)).bind fun l=>some (true,l.1,l.2,b.2.2.2.2.1,b.2.2.2.2.2.1,i) else some (b.1,j.2.1,j.2.2,b.2.2.2.2.1,b.2.2.2.2.2.1,i)).bind fun (l:Vm)=>some (Step.next l) else some (Step.done b.2.2)
def qbe (A:Ws) (B:XI) (C:Z6) (D:W0) (E:Z6) (G:Vn) (H:wQ) (x:yV):G3 ZA:=(A x.2).bind fun a=>(B (lit [40],a.2)).bind fun b=>(C (lit [41],b)).bind fun c=>(lpO (q8x A B C D E G H) (c.1,c.2.1,c.2.2,(0,lit [],0,0),(6,a.1.2.1,a.1.2.2.1,x.1),Sl.mk [] false)).bind fun d=>(zd d.2.1 d.1.1).bind fun e=>(zd d.2.1 d.1.1).bind fun i=>(C (lit [45,62],d.1,d.2.1)).bind fun j=>(if j.1=true then (E (lit [38],j.2)).bind fun l=>(if l.1=true then (G (20,l.2)).bind fun m=>some (m.1,m.2,d.2.2.1,d.2.2.2.1,(8,lit [],0,i.a_),d.2.2.2.2) else some (l.2.1,l.2.2,d.2.2.1,d.2.2.2.1,(8,lit [],0,i.a_),d.2.2.2.2)).bind fun (m:(Int×Int×Int×Int)×Sl q9×(Int×G0×Int×Int)×(Int×G0×Int×Int)×(Int×G0×Int×Int)×Sl q6)=>(D (m.1,m.2.1)).bind fun n=>some (n.2.1,n.2.2,m.2.2.1,m.2.2.2.1,kr n.1,m.2.2.2.2.2) else some (j.2.1,j.2.2,d.2.2.1,d.2.2.2.1,q6.mk 8 (lit []) 0 i.a_ (Sl.mk [] false),d.2.2.2.2)).bind fun (l:(Int×Int×Int×Int)×Sl q9×(Int×G0×Int×Int)×(Int×G0×Int×Int)×q6×Sl q6)=>(H (l.1,l.2.1)).bind fun m=>(zp 64 l.2.2.2.2.2 [kr l.2.2.2.2.1]).bind fun n=>(zp 64 n [q6.mk m.1.1 m.1.2.1 m.1.2.2.1 m.1.2.2.2 m.2.2.2]).bind fun o=>some (l.2.2.2.1,m.2.1,m.2.2.1,o)
def q5c:yV->G3 ZA:=qbe q11 qy qu q2s q1i q15 q46
theorem qk5:@Eq ((yV)->G3 ZA) zqJ.F q5c:=by delta q5c;rw [<-q2v,<-q2k,<-q1j,<-qir,<-q5o,<-q3t,<-qi1];kernel_rfl
def q31 (A:Z6) (B:Ws) (C:Vn):zr2->G3 (Step zr2 tA6):=fun a=>if decide (a.1 < Sl.len a.2.2.2.2.2)=true then (zd a.2.2.2.2.2 a.1).bind fun b=>(zd a.2.2.2.2.2 a.1).bind fun c=>(A (c,a.2.1,a.2.2.1)).bind fun d=>if d.1=true then (B d.2).bind fun e=>some (Step.done (inl (e.2.1,e.2.2,a.2.2.2.2.1,Sl.mk [q6.mk e.1.1 e.1.2.1 e.1.2.2.1 e.1.2.2.2 (Sl.mk [] false)] true))) else some (Step.next (G4 (a.1+1),d.2.1,d.2.2,a.2.2.2)) else some (Step.done (inr (a.2.1,a.2.2.1,a.2.2.2.1,a.2.2.2.2.1)))
def q7k (A:Z6) (B:Ws) (C:Vn) (x:zB):G3 Zq:=(zd x.2 x.1.1).bind fun a=>(zd x.2 x.1.1).bind fun b=>(zd x.2 x.1.1).bind fun c=>(zd x.2 x.1.1).bind fun d=>(A (lit [111,119,110],x)).bind fun e=>if e.1=true then some (q6.mk 2 b.T_ 0 d.a_ (Sl.mk [] false),e.2) else (A (lit [99,101,108,108],e.2)).bind fun i=>if i.1=true then some (q6.mk 2 b.T_ 0 d.a_ (Sl.mk [] false),i.2) else (lpO (q31 A B C) (0,i.2.1,i.2.2,(0,lit [],0,0),(2,b.T_,0,d.a_),Sl.mk [lit [99,111,117,110,116,101,100],lit [108,111,99,107],lit [103,117,97,114,100]] true)).bind fun j=>elim (fun l=>some (q6.mk l.2.2.1.1 l.2.2.1.2.1 l.2.2.1.2.2.1 l.2.2.1.2.2.2 l.2.2.2,l.1,l.2.1)) (fun l=>(C (20,l.1,l.2.1)).bind fun m=>some (q6.mk l.2.2.2.1 l.2.2.2.2.1 l.2.2.2.2.2.1 l.2.2.2.2.2.2 (Sl.mk [] false),m)) j
def q38:zB->G3 Zq:=q7k qu q11 q15
theorem qiu:@Eq ((zB)->G3 Zq) zqK.F q38:=by delta q38;rw [<-q1j,<-q2v,<-q3t];kernel_rfl
def q9p (A:Ws) (B:Z6) (C:XI) (x:zB):G3 ZA:=(A x).bind fun a=>(B (lit [91],a.2)).bind fun b=>(if b.1=true then (A b.2).bind fun c=>(C (lit [93],c.2)).bind fun d=>some (d.1,d.2,(0,lit [],0,0),(3,a.1.2),Sl.mk [q6.mk c.1.1 c.1.2.1 c.1.2.2.1 c.1.2.2.2 (Sl.mk [] false)] true) else some (b.2.1,b.2.2,(0,lit [],0,0),(3,a.1.2),Sl.mk [] false)).bind fun (c:xm)=>some (c.2.2.2.1,c.1,c.2.1,c.2.2.2.2)
def q32:Yj:=q9p q11 qu qy
theorem qi2:@Eq Yj zqL.F q32:=by delta q32;rw [<-q2v,<-q1j,<-q2k];kernel_rfl
def qas (A:Ws) (B:W0) (C:Z6) (D:wQ) (E:XI) (G:wQ):Vm->G3 (Step Vm xm):=fun a=>if a.1=true then (D (a.2.1,a.2.2.1)).bind fun b=>(zp 64 a.2.2.2.2.2 [q6.mk b.1.1 b.1.2.1 b.1.2.2.1 b.1.2.2.2 b.2.2.2]).bind fun c=>(C (lit [44],b.2.1,b.2.2.1)).bind fun d=>(if (!d.1)=true then (E (lit [125],d.2)).bind fun e=>some (d.1,e.1,e.2,a.2.2.2.1,a.2.2.2.2.1,c) else some (d.1,d.2.1,d.2.2,a.2.2.2.1,a.2.2.2.2.1,c)).bind fun e=>some (Step.next e) else some (Step.done a.2)
def qat (A:Ws) (B:W0) (C:Z6) (D:wQ) (E:XI) (G:wQ):Vm->G3 (Step Vm xm):=fun a=>if a.1=true then (G (a.2.1,a.2.2.1)).bind fun b=>(zp 64 a.2.2.2.2.2 [q6.mk b.1.1 b.1.2.1 b.1.2.2.1 b.1.2.2.2 b.2.2.2]).bind fun c=>(C (lit [44],b.2.1,b.2.2.1)).bind fun d=>some (Step.next (d.1,d.2.1,d.2.2,a.2.2.2.1,a.2.2.2.2.1,c)) else some (Step.done a.2)
def qau (A:Ws) (B:W0) (C:Z6) (D:wQ) (E:XI) (G:wQ) (x:yV):G3 ZA:=(A x.2).bind fun a=>(B a.2).bind fun b=>(C (lit [123],b.2)).bind fun c=>(lpO (qas A B C D E G) (c.1,c.2.1,c.2.2,(0,lit [],0,0),(1,a.1.2.1,a.1.2.2.1,x.1),Sl.mk [kr b.1] true)).bind fun d=>(C (lit [119,104,101,114,101],d.1,d.2.1)).bind fun e=>(lpO (qat A B C D E G) (e.1,e.2.1,e.2.2,d.2.2)).bind fun i=>(E (lit [59],i.1,i.2.1)).bind fun j=>some (i.2.2.2.1,j.1,j.2,i.2.2.2.2)
def q4w:yV->G3 ZA:=qau q11 q38 qu q32 qy q1m
theorem qjk:@Eq ((yV)->G3 ZA) zqM.F q4w:=by delta q4w;rw [<-q2v,<-qiu,<-q1j,<-qi2,<-q2k,<-qem];kernel_rfl
def q5d (A:XF):Int×Int×q6->G3 (Step (Int×Int×q6) Int):=fun a=>if decide (a.2.1 < a.2.2.K_.len)=true then (zd a.2.2.K_ a.2.1).bind fun b=>(A (kr b)).bind fun c=>some (Step.next (G4 (a.1+c),G4 (a.2.1+1),kr a.2.2)) else some (Step.done a.1)
def q7v (A:XF) (x:q6):Ga:=(lpO (q5d A) (1,0,kr x)).bind fun a=>some a
def q7w (h:XF):XF:=q7v h
theorem qi3 (h:XF):@Eq XF (zhB h) (q7w h):=by kernel_rfl
def q2o:Nat->q6->G3 Int
  |0=>fun _=>none
  |k+1=>q7w (q2o k)
theorem qdn:∀ k,@Eq XF (zfc k) (q2o k)
  |0=>rfl
  |k+1=>(qi3 (zfc k)).trans (congrArg q7w (qdn k))
def q8c:XF:=q2o 100000
theorem qiv:@Eq XF zu6 q8c:=qdn 100000
def q6i (A:zhY) (B:Z6) (C:zng) (D:XI) (E:zng) (G:XF):zeC->G3 (Step zeC zeC):=fun a=>(if decide (a.2.1.2.2.1=0)=true then (zd a.2.2.2.1 a.2.1.1).bind fun b=>(zd a.2.2.2.1 a.2.1.1).bind fun c=>some (decide (c.k_≠0),a) else some (false,a)).bind fun b=>if b.1=true then ((zd b.2.2.2.2.1 b.2.2.1.1).bind fun c=>(zd b.2.2.2.2.1 b.2.2.1.1).bind fun d=>(B (lit [102,110],b.2.2.1,b.2.2.2.2.1)).bind fun e=>if e.1=true then (C (d.a_,e.2)).bind fun i=>(zp 64 b.2.2.2.2.2 [q6.mk i.1.1 i.1.2.1 i.1.2.2.1 i.1.2.2.2 i.2.2.2]).bind fun j=>some (b.2.1,i.2.1,b.2.2.2.1,i.2.2.1,j) else (D (lit [116,121,112,101],e.2)).bind fun l=>(if decide (l.1.2.2.1=0)=true then (E (d.a_,l)).bind fun m=>(zp 64 b.2.2.2.2.2 [q6.mk m.1.1 m.1.2.1 m.1.2.2.1 m.1.2.2.2 m.2.2.2]).bind fun n=>some (b.2.1,m.2.1,b.2.2.2.1,m.2.2.1,n) else some (b.2.1,l.1,b.2.2.2.1,l.2,b.2.2.2.2.2)).bind fun m=>some m).bind fun c=>some (Step.next c) else some (Step.done b.2)
def q9q (A:zhY) (B:Z6) (C:zng) (D:XI) (E:zng) (G:XF) (x:Zs):G3 (q6×zY):=(A x).bind fun a=>if decide (a.2.1≠0)=true then some (q6.mk 0 (lit []) 0 0 (Sl.mk [] false),a.1,a.2.1) else (lpO (q6i A B C D E G) ((0,lit [],0,0),(0,0,0,0),(0,lit [],0,0),a.2.2,Sl.mk [] false)).bind fun b=>if decide (b.2.1.2.2.1≠0)=true then some (q6.mk 0 (lit []) 0 0 (Sl.mk [] false),b.2.1.2.2.2,b.2.1.2.2.1) else (G (q6.mk b.2.2.1.1 b.2.2.1.2.1 b.2.2.1.2.2.1 b.2.2.1.2.2.2 b.2.2.2.2)).bind fun c=>if decide (4096 < c)=true then some (q6.mk 0 (lit []) 0 0 (Sl.mk [] false),0,22) else some (q6.mk b.2.2.1.1 b.2.2.1.2.1 b.2.2.1.2.2.1 b.2.2.1.2.2.2 b.2.2.2.2,0,0)
def q22:zh0:=q9q q50 qu q5c qy q4w q8c
theorem qaj:@Eq zh0 zqN.F q22:=by delta q22;rw [<-qh8,<-q1j,<-qk5,<-q2k,<-qjk,<-qiv];kernel_rfl
def q5f:zig->G3 (Step zig Gc):=fun a=>if decide (a.2.1 < a.2.2.1.K_.len)=true then (zd a.2.2.1.K_ a.2.1).bind fun b=>(if decide (b.k_=a.1)=true then (zd a.2.2.1.K_ a.2.1).bind fun c=>(zp 64 a.2.2.2 [kr c]).bind fun d=>some (a.1,a.2.1,kr a.2.2.1,d) else some (a.1,a.2.1,kr a.2.2.1,a.2.2.2)).bind fun c=>some (Step.next (c.1,G4 (c.2.1+1),kr c.2.2.1,c.2.2.2)) else some (Step.done a.2.2.2)
def q7l (x:q6×Int):G3 Gc:=(lpO q5f (x.2,0,kr x.1,Sl.mk [] false)).bind fun a=>some a
def q1a:zdB:=q7l
theorem qiw:@Eq ((q6×Int)->G3 (Sl q6)) zmE.F q1a:=by kernel_rfl
def q48:zn6->G3 (Step zn6 zdG):=fun a=>if decide (a.2.2 < Sl.len a.1)=true then (zd a.1 a.2.2).bind fun b=>if decide (b.N_=a.2.1)=true then some (Step.done (inl a.2.2)) else some (Step.next (a.1,a.2.1,G4 (a.2.2+1))) else some (Step.done (inr ()))
def qag (x:zik):Ga:=(lpO q48 (x.1,x.2,0)).bind fun a=>elim (fun b=>some b) (fun b=>some (-1)) a
def q17:zik->Ga:=qag
theorem qb3:@Eq ((zik)->G3 Int) zjx.F q17:=by kernel_rfl
def q3n:zn7->G3 (Step zn7 zdG):=fun a=>if decide (a.2.2 < Sl.len a.1)=true then ((zd a.1 a.2.2).bind fun b=>if decide (b.T_=a.2.1)=true then (zd a.1 a.2.2).bind fun c=>some (a.1,a.2.1,a.2.2,decide (c.K_.len=0)) else some (a.1,a.2.1,a.2.2,false)).bind fun b=>if b.2.2.2=true then some (Step.done (inl b.2.2.1)) else some (Step.next (b.1,b.2.1,G4 (b.2.2.1+1))) else some (Step.done (inr ()))
def q93 (x:zil):Ga:=(lpO q3n (x.1,x.2,0)).bind fun a=>elim (fun b=>some b) (fun b=>some (-1)) a
def q19:zil->Ga:=q93
theorem qhb:@Eq ((zil)->G3 Int) zmF.F q19:=by kernel_rfl
def q6k (x:VZ):G3 (Sl qq):=(if decide (x.1=lit [60])=true then some (x.1,x.2.1,x.2.2.1,x.2.2.2.1,x.2.2.2.2,Sl.mk ([]++[qq.mk x.2.1 x.2.2.1 (G4 (G4 (x.2.2.2.2 - x.2.2.2.1) - 1))]) (false || ![qq.mk x.2.1 x.2.2.1 (G4 (G4 (x.2.2.2.2 - x.2.2.2.1) - 1))].isEmpty)) else some (x.1,x.2.1,x.2.2.1,x.2.2.2.1,x.2.2.2.2,Sl.mk [] false)).bind fun a=>(if decide (a.1=lit [60,61])=true then some (a.1,a.2.1,a.2.2.1,a.2.2.2.1,a.2.2.2.2.1,true,a.2.2.2.2.2) else some (a.1,a.2.1,a.2.2.1,a.2.2.2.1,a.2.2.2.2.1,decide (a.1=lit [61,61]),a.2.2.2.2.2)).bind fun b=>(if b.2.2.2.2.2.1=true then (zp 24 b.2.2.2.2.2.2 [qq.mk b.2.1 b.2.2.1 (G4 (b.2.2.2.2.1 - b.2.2.2.1))]).bind fun c=>some (b.1,b.2.1,b.2.2.1,b.2.2.2.1,b.2.2.2.2.1,c) else some (b.1,b.2.1,b.2.2.1,b.2.2.2.1,b.2.2.2.2.1,b.2.2.2.2.2.2)).bind fun c=>(if decide (c.1=lit [61,61])=true then (zp 24 c.2.2.2.2.2 [qq.mk c.2.2.1 c.2.1 (G4 (c.2.2.2.1 - c.2.2.2.2.1))]).bind fun d=>some d else some c.2.2.2.2.2).bind fun d=>some d
def q18:VZ->G3 (Sl qq):=q6k
theorem qi4:@Eq ((VZ)->G3 (Sl qq)) zmG.F q18:=by kernel_rfl
def q4k (A:zdB) (B:zbT) (C:zdv) (D:zdp):znl->G3 (Step znl zv4):=fun a=>if decide (a.2.1 < a.1)=true then (zd a.2.2.2.2.1 a.2.1).bind fun b=>(zd a.2.2.2.2.1 a.2.1).bind fun c=>if decide (c.T_=a.2.2.2.2.2.2.2.2.1.T_)=true then some (Step.done (inl (a.2.2.2.2.2.2.2.2.1.a_,30,a.2.2.1,a.2.2.2.2.2.2.2.1,a.2.2.2.2.2.2.2.2.2))) else some (Step.next (a.1,G4 (a.2.1+1),a.2.2.1,a.2.2.2.1,a.2.2.2.2.1,a.2.2.2.2.2.1,kr a.2.2.2.2.2.2.1,a.2.2.2.2.2.2.2.1,kr a.2.2.2.2.2.2.2.2.1,a.2.2.2.2.2.2.2.2.2)) else some (Step.done (inr (a.1,a.2.2.1,a.2.2.2.1,a.2.2.2.2.1,a.2.2.2.2.2.1,kr a.2.2.2.2.2.2.1,a.2.2.2.2.2.2.2.1,kr a.2.2.2.2.2.2.2.2.1,a.2.2.2.2.2.2.2.2.2)))
def q3q (A:zdB) (B:zbT) (C:zdv) (D:zdp):znm->G3 (Step znm zv9):=fun a=>if decide (a.1 < Sl.len a.2.2.2.1)=true then ((zd a.2.2.2.1 a.1).bind fun b=>(zd a.2.2.2.1 a.1).bind fun c=>(lpO (q4k A B C D) (a.1,0,a.2.1,a.2.2.1,a.2.2.2.1,a.2.2.2.2.1,kr a.2.2.2.2.2.1,a.2.2.2.2.2.2.1,kr c,a.2.2.2.2.2.2.2)).bind fun d=>elim (fun e=>some (inl e)) (fun e=>(if decide (0 < e.2.2.2.2.2.2.2.1.K_.len)=true then (zd e.2.2.2.2.2.2.2.1.K_ 0).bind fun i=>(C (e.2.2.2.1,i.T_)).bind fun j=>(if decide (e.2.2.2.2.2.1.T_≠lit [111,119,110])=true then some (e.1,j,true,e.2.1,e.2.2.1,e.2.2.2.1,e.2.2.2.2.1,kr e.2.2.2.2.2.1,e.2.2.2.2.2.2.1,kr e.2.2.2.2.2.2.2.1,e.2.2.2.2.2.2.2.2) else some (e.1,j,decide (j < 0),e.2.1,e.2.2.1,e.2.2.2.1,e.2.2.2.2.1,kr e.2.2.2.2.2.1,e.2.2.2.2.2.2.1,kr e.2.2.2.2.2.2.2.1,e.2.2.2.2.2.2.2.2)).bind fun l=>if l.2.2.1=true then some (inl (l.2.2.2.2.2.2.2.2.2.1.a_,32,l.2.2.2.1,l.2.2.2.2.2.2.2.2.1,l.2.2.2.2.2.2.2.2.2.2)) else some (inr (l.1,l.2.1,l.2.2.2.1,l.2.2.2.2.1,l.2.2.2.2.2.1,l.2.2.2.2.2.2.1,kr l.2.2.2.2.2.2.2.1,l.2.2.2.2.2.2.2.2.1,kr l.2.2.2.2.2.2.2.2.2.1,l.2.2.2.2.2.2.2.2.2.2)) else some (inr (e.1, -1,e.2.1,e.2.2.1,e.2.2.2.1,e.2.2.2.2.1,kr e.2.2.2.2.2.1,e.2.2.2.2.2.2.1,kr e.2.2.2.2.2.2.2.1,e.2.2.2.2.2.2.2.2))).bind fun i=>elim (fun j=>some (inl j)) (fun j=>(zp 24 j.2.2.2.2.2.2.2.2.2 [qk.mk j.2.2.2.2.2.2.2.2.1.T_ j.2.1]).bind fun l=>some (inr (j.1,j.2.2.1,j.2.2.2.1,j.2.2.2.2.1,j.2.2.2.2.2.1,kr j.2.2.2.2.2.2.1,j.2.2.2.2.2.2.2.1,l))) i) d).bind fun b=>elim (fun c=>some (Step.done (inl c))) (fun c=>some (Step.next (G4 (c.1+1),c.2.1,c.2.2.1,c.2.2.2.1,c.2.2.2.2.1,kr c.2.2.2.2.2.1,c.2.2.2.2.2.2))) b else some (Step.done (inr (a.2.1,a.2.2.1,a.2.2.2.1,a.2.2.2.2.1,kr a.2.2.2.2.2.1,a.2.2.2.2.2.2)))
def q8d (A:zdB) (B:zbT) (C:zdv) (D:zdp):znh->G3 (Step znh tA4):=fun a=>if decide (a.2.2.1 < 2)=true then ((zd a.2.2.2.2.2.2.1 a.2.1).bind fun b=>(zd a.2.2.2.2.2.2.1 a.2.1).bind fun c=>(zd c.K_ a.2.2.1).bind fun d=>if decide (d.T_=lit [])=true then some (inl a) else (C (a.2.2.2.2.2.1,d.T_)).bind fun e=>(if decide (e < 0)=true then some (a.1,a.2.1,a.2.2.1,e,true,a.2.2.2) else some (a.1,a.2.1,a.2.2.1,e,decide (e=a.1),a.2.2.2)).bind fun i=>if i.2.2.2.2.1=true then (zd i.2.2.2.2.2.2.2.2.1 i.2.1).bind fun j=>(zd i.2.2.2.2.2.2.2.2.1 i.2.1).bind fun l=>some (inr (l.a_,33,i.2.2.2.2.2.1,i.2.2.2.2.2.2.2.2.2.1,i.2.2.2.2.2.2.2.2.2.2.2)) else (zd i.2.2.2.2.2.2.2.2.2.2.1 i.2.2.1).bind fun m=>(zd i.2.2.2.2.2.2.2.2.2.2.1 i.2.2.1).bind fun n=>some (inl (i.1,i.2.1,i.2.2.1,i.2.2.2.2.2.1,i.2.2.2.2.2.2.1,i.2.2.2.2.2.2.2.1,i.2.2.2.2.2.2.2.2.1,i.2.2.2.2.2.2.2.2.2.1,Sl.set i.2.2.2.2.2.2.2.2.2.2.1 i.2.2.1 (G4 (i.2.2.2.1+1)),i.2.2.2.2.2.2.2.2.2.2.2))).bind fun b=>elim (fun c=>some (Step.next (c.1,c.2.1,G4 (c.2.2.1+1),c.2.2.2))) (fun c=>some (Step.done (inl c))) b else some (Step.done (inr (a.1,a.2.1,a.2.2.2)))
def q4l (A:zdB) (B:zbT) (C:zdv) (D:zdp):zr3->G3 (Step zr3 zkk):=fun a=>if decide (a.2.2.1 < Sl.len a.2.2.2.2.2.2.2.2.1)=true then (zd a.2.2.2.2.2.2.2.2.1 a.2.2.1).bind fun b=>(zd a.2.2.2.2.2.2.2.2.1 a.2.2.1).bind fun c=>(zp 24 a.2.2.2.2.2.2.2.2.2.2 [c]).bind fun d=>some (Step.next (a.1,a.2.1,G4 (a.2.2.1+1),a.2.2.2.1,a.2.2.2.2.1,a.2.2.2.2.2.1,a.2.2.2.2.2.2.1,a.2.2.2.2.2.2.2.1,a.2.2.2.2.2.2.2.2.1,a.2.2.2.2.2.2.2.2.2.1,d)) else some (Step.done (a.1,a.2.1,a.2.2.2.1,a.2.2.2.2.1,a.2.2.2.2.2.1,a.2.2.2.2.2.2.1,a.2.2.2.2.2.2.2.1,a.2.2.2.2.2.2.2.2.2))
def q39 (A:zdB) (B:zbT) (C:zdv) (D:zdp):zkk->G3 (Step zkk zwa):=fun a=>if decide (a.2.1 < Sl.len a.2.2.2.2.2.1)=true then (lpO (q8d A B C D) (a.1,a.2.1,0,a.2.2.1,a.2.2.2.1,a.2.2.2.2.1,a.2.2.2.2.2.1,a.2.2.2.2.2.2.1,Sl.mk [0,0] true,a.2.2.2.2.2.2.2)).bind fun b=>elim (fun c=>some (Step.done (inl c))) (fun c=>(zd c.2.2.2.2.2.1 c.2.1).bind fun d=>(zd c.2.2.2.2.2.1 c.2.1).bind fun e=>(zd c.2.2.2.2.2.2.2.1 0).bind fun i=>(zd c.2.2.2.2.2.2.2.1 0).bind fun j=>(zd c.2.2.2.2.2.2.2.1 1).bind fun l=>(zd c.2.2.2.2.2.2.2.1 1).bind fun m=>(zd c.2.2.2.2.2.1 c.2.1).bind fun n=>(zd c.2.2.2.2.2.1 c.2.1).bind fun o=>(zd o.K_ 0).bind fun p=>(zd c.2.2.2.2.2.1 c.2.1).bind fun r=>(zd c.2.2.2.2.2.1 c.2.1).bind fun s=>(zd s.K_ 1).bind fun t=>(D (e.T_,j,m,p.n_,t.n_)).bind fun u=>(lpO (q4l A B C D) (c.1,c.2.1,0,c.2.2.1,c.2.2.2.1,c.2.2.2.2.1,c.2.2.2.2.2.1,c.2.2.2.2.2.2.1,u,c.2.2.2.2.2.2.2.2)).bind fun v=>some (Step.next (v.1,G4 (v.2.1+1),v.2.2))) b else some (Step.done (inr (a.2.2.1,a.2.2.2.1,a.2.2.2.2.2.2)))
def q8e (A:zdB) (B:zbT) (C:zdv) (D:zdp) (x:XY):G3 zih:=(A (kr x.1,3)).bind fun a=>(A (kr x.1,4)).bind fun b=>(zd x.1.K_ 0).bind fun c=>(B (x.2,x.1.T_)).bind fun d=>if decide (0<=d)=true then some (qc.mk x.1.T_ 0 0 (Sl.mk [] false) (Sl.mk [] false),x.1.a_,30,x.2) else if decide (8 < a.len)=true then some (qc.mk x.1.T_ 0 0 (Sl.mk [] false) (Sl.mk [] false),x.1.a_,22,x.2) else (lpO (q3q A B C D) (0,x.2,(lit [],0,0),a,b,kr c,(x.1.T_,0,0),Sl.mk [] false)).bind fun e=>elim (fun i=>some (qc.mk i.2.2.2.1.1 i.2.2.2.1.2.1 i.2.2.2.1.2.2 i.2.2.2.2 (Sl.mk [] false),i.1,i.2.1,i.2.2.1)) (fun i=>(if decide (i.2.2.2.2.1.T_=lit [99,101,108,108])=true then some (inl (-1,i.1,i.2.1,i.2.2.1,i.2.2.2.1,(i.2.2.2.2.2.1.1,1,i.2.2.2.2.2.1.2.2),i.2.2.2.2.2.2)) else (if decide (i.2.2.2.2.1.T_=lit [99,111,117,110,116,101,100])=true then some (-1,i.2.2.2.2.1.T_,decide (i.2.2.2.2.1.T_=lit [99,111,117,110,116,101,100]),i.1,i.2.1,i.2.2.1,i.2.2.2.1,kr i.2.2.2.2.1,i.2.2.2.2.2) else some (-1,i.2.2.2.2.1.T_,decide (i.2.2.2.2.1.T_=lit [108,111,99,107]),i.1,i.2.1,i.2.2.1,i.2.2.2.1,kr i.2.2.2.2.1,i.2.2.2.2.2)).bind fun j=>(if j.2.2.1=true then (if decide (j.2.2.2.2.2.2.2.1.T_=lit [108,111,99,107])=true then some (j.2.2.2.1,j.2.2.2.2.1,j.2.2.2.2.2.1,j.2.2.2.2.2.2.1,kr j.2.2.2.2.2.2.2.1,(j.2.2.2.2.2.2.2.2.1.1,3,j.2.2.2.2.2.2.2.2.1.2.2),j.2.2.2.2.2.2.2.2.2) else some (j.2.2.2.1,j.2.2.2.2.1,j.2.2.2.2.2.1,j.2.2.2.2.2.2.1,kr j.2.2.2.2.2.2.2.1,(j.2.2.2.2.2.2.2.2.1.1,2,j.2.2.2.2.2.2.2.2.1.2.2),j.2.2.2.2.2.2.2.2.2)).bind fun l=>(zd l.2.2.2.2.1.K_ 0).bind fun m=>(C (l.2.2.1,m.T_)).bind fun n=>if decide (n < 0)=true then some (inl (l.2.2.2.2.1.a_,32,l.1,l.2.2.2.2.2)) else some (inr (n,l.1,l.2.1,l.2.2.1,l.2.2.2.1,(l.2.2.2.2.2.1.1,l.2.2.2.2.2.1.2.1,n),l.2.2.2.2.2.2)) else (if decide (j.2.1=lit [103,117,97,114,100])=true then (zd j.2.2.2.2.2.2.2.1.K_ 0).bind fun o=>(B (j.2.2.2.1,o.T_)).bind fun p=>if decide (p < 0)=true then some (inl (j.2.2.2.2.2.2.2.1.a_,31,j.2.2.2.1,(j.2.2.2.2.2.2.2.2.1.1,4,p),j.2.2.2.2.2.2.2.2.2)) else (zd j.2.2.2.1 p).bind fun r=>(zd j.2.2.2.1 p).bind fun s=>if decide (s.S_≠3)=true then some (inl (j.2.2.2.2.2.2.2.1.a_,31,j.2.2.2.1,(j.2.2.2.2.2.2.2.2.1.1,4,p),j.2.2.2.2.2.2.2.2.2)) else (if decide (0 < Sl.len j.2.2.2.2.2.1)=true then some (j.1,true,j.2.2.2.1,j.2.2.2.2.1,j.2.2.2.2.2.1,j.2.2.2.2.2.2.1,kr j.2.2.2.2.2.2.2.1,(j.2.2.2.2.2.2.2.2.1.1,4,p),j.2.2.2.2.2.2.2.2.2) else some (j.1,decide (0 < Sl.len j.2.2.2.2.2.2.1),j.2.2.2.1,j.2.2.2.2.1,j.2.2.2.2.2.1,j.2.2.2.2.2.2.1,kr j.2.2.2.2.2.2.2.1,(j.2.2.2.2.2.2.2.2.1.1,4,p),j.2.2.2.2.2.2.2.2.2)).bind fun t=>if t.2.1=true then some (inl (t.2.2.2.2.2.2.1.a_,32,t.2.2.1,t.2.2.2.2.2.2.2)) else some (inr (t.1,t.2.2.1,t.2.2.2.1,t.2.2.2.2.1,t.2.2.2.2.2.1,t.2.2.2.2.2.2.2)) else some (inr (j.1,j.2.2.2.1,j.2.2.2.2.1,j.2.2.2.2.2.1,j.2.2.2.2.2.2.1,j.2.2.2.2.2.2.2.2))).bind fun o=>elim (fun p=>some (inl p)) (fun p=>some (inr p)) o).bind fun l=>elim (fun m=>some (inr m)) (fun m=>some (inl m)) l).bind fun j=>elim (fun l=>(lpO (q39 A B C D) (l.1,0,l.2.1,l.2.2.1,l.2.2.2.1,l.2.2.2.2.1,l.2.2.2.2.2.1,l.2.2.2.2.2.2,Sl.mk [] false)).bind fun m=>elim (fun n=>some (qc.mk n.2.2.2.1.1 n.2.2.2.1.2.1 n.2.2.2.1.2.2 n.2.2.2.2.1 n.2.2.2.2.2,n.1,n.2.1,n.2.2.1)) (fun n=>some (qc.mk n.2.2.1.1 n.2.2.1.2.1 n.2.2.1.2.2 n.2.2.2.1 n.2.2.2.2,0,0,n.1)) m) (fun l=>some (qc.mk l.2.2.2.1.1 l.2.2.2.1.2.1 l.2.2.2.1.2.2 l.2.2.2.2 (Sl.mk [] false),l.1,l.2.1,l.2.2.1)) j) e
def q3d:XY->G3 zih:=q8e q1a q17 q19 q18
theorem qjl:@Eq ((XY)->G3 zih) zqO.F q3d:=by delta q3d;rw [<-qiw,<-qb3,<-qhb,<-qi4];kernel_rfl
def q3x (A:zsW):zip->G3 (Step zip (zY⊕Gb)):=fun a=>if decide (a.1 < a.2.1.K_.len)=true then ((zd a.2.1.K_ a.1).bind fun b=>if decide (b.k_≠1)=true then some (inl (a.1,kr a.2.1,a.2.2)) else (zd a.2.1.K_ a.1).bind fun c=>(A (kr c,a.2.2)).bind fun d=>if decide (d.2.2.1≠0)=true then some (inr (d.2.1,d.2.2.1)) else (zp 80 d.2.2.2 [d.1]).bind fun e=>some (inl (a.1,kr a.2.1,e))).bind fun b=>elim (fun c=>some (Step.next (G4 (c.1+1),kr c.2.1,c.2.2))) (fun c=>some (Step.done (inl c))) b else some (Step.done (inr a.2.2))
def q6l (A:zsW) (x:q6):G3 (Int×Int×Gb):=(lpO (q3x A) (0,kr x,Sl.mk [] false)).bind fun a=>elim (fun b=>some (b.1,b.2,Sl.mk [] false)) (fun b=>some (0,0,b)) a
def q1t:zh6:=q6l q3d
theorem qdo:@Eq zh6 zqP.F q1t:=by delta q1t;rw [<-qjl];kernel_rfl
def q7m (A:zbT) (x:XY):G3 zfP:=(if decide (x.1.T_=lit [105,110,116])=true then some (x.2,kr x.1,qh.mk (lit []) 0 0,qh.mk (lit []) 1 0) else (if decide (x.1.T_=lit [111,119,110])=true then some (x.2,kr x.1,qh.mk (lit []) 0 0,qh.mk (lit []) 2 0) else (if decide (x.1.T_=lit [38])=true then some (x.2,kr x.1,qh.mk (lit []) 0 0,qh.mk (lit []) 3 0) else (if decide (x.1.T_=lit [38,109,117,116])=true then some (x.2,kr x.1,qh.mk (lit []) 0 0,qh.mk (lit []) 4 0) else some (x.2,kr x.1,qh.mk (lit []) 0 0,qh.mk (lit []) 0 0)).bind fun a=>some (a.1,kr a.2.1,a.2.2)).bind fun a=>some (a.1,kr a.2.1,a.2.2)).bind fun a=>some (a.1,kr a.2.1,a.2.2)).bind fun a=>(if decide (1 < a.2.2.2.M_)=true then (zd a.2.1.K_ 0).bind fun b=>(A (a.1,b.T_)).bind fun c=>if decide (c < 0)=true then some (inl (false,qh.mk (lit []) 0 0)) else some (inr (a.2.2.1,qh.mk a.2.2.2.N_ a.2.2.2.M_ c)) else some (inr a.2.2)).bind fun b=>elim (fun c=>some (c.2,c.1)) (fun c=>some (c.2,true)) b
def q1y:XY->G3 zfP:=q7m q17
theorem qix:@Eq ((XY)->G3 zfP) zqQ.F q1y:=by delta q1y;rw [<-qb3];kernel_rfl
def q4m (A:zh4):zr1->G3 (Step zr1 zv3):=fun a=>if decide (a.2.2.2.1 < a.2.2.1)=true then (zd a.2.2.2.2.1.K_ a.2.2.2.1).bind fun b=>if decide (b.T_=a.2.2.2.2.2.2.2.1.T_)=true then some (Step.done (inl (a.2.2.2.2.2.2.2.1.a_,30,lit [],lit [],0,0))) else some (Step.next (a.1,a.2.1,a.2.2.1,G4 (a.2.2.2.1+1),kr a.2.2.2.2.1,a.2.2.2.2.2.1,a.2.2.2.2.2.2.1,kr a.2.2.2.2.2.2.2.1,a.2.2.2.2.2.2.2.2)) else some (Step.done (inr (a.1,a.2.1,a.2.2.1,kr a.2.2.2.2.1,a.2.2.2.2.2.1,a.2.2.2.2.2.2.1,kr a.2.2.2.2.2.2.2.1,a.2.2.2.2.2.2.2.2)))
def q4n (A:zh4):zrY->G3 (Step zrY tA7):=fun a=>if decide (a.2.2.2.1 < a.2.2.1)=true then (zd a.2.2.2.2.2.2.2.2.2 a.2.2.2.1).bind fun b=>(zd a.2.2.2.2.2.2.2.2.2 a.2.2.2.1).bind fun c=>(if decide (1 < a.2.2.2.2.2.2.2.2.1.M_)=true then if decide (1 < c.M_)=true then if decide (a.2.2.2.2.2.2.2.2.1.t_=c.t_)=true then (zd a.1 a.2.2.2.2.2.2.2.2.1.t_).bind fun d=>some (a.1,a.2.1,a.2.2.1,a.2.2.2.1,decide (d.S_≠0),kr a.2.2.2.2.1,a.2.2.2.2.2.1,a.2.2.2.2.2.2.1,kr a.2.2.2.2.2.2.2.1,a.2.2.2.2.2.2.2.2) else some (a.1,a.2.1,a.2.2.1,a.2.2.2.1,false,kr a.2.2.2.2.1,a.2.2.2.2.2.1,a.2.2.2.2.2.2.1,kr a.2.2.2.2.2.2.2.1,a.2.2.2.2.2.2.2.2) else some (a.1,a.2.1,a.2.2.1,a.2.2.2.1,false,kr a.2.2.2.2.1,a.2.2.2.2.2.1,a.2.2.2.2.2.2.1,kr a.2.2.2.2.2.2.2.1,a.2.2.2.2.2.2.2.2) else some (a.1,a.2.1,a.2.2.1,a.2.2.2.1,false,kr a.2.2.2.2.1,a.2.2.2.2.2.1,a.2.2.2.2.2.2.1,kr a.2.2.2.2.2.2.2.1,a.2.2.2.2.2.2.2.2)).bind fun d=>if d.2.2.2.2.1=true then (zd d.2.2.2.2.2.2.2.2.1.K_ 0).bind fun e=>some (Step.done (inl (e.a_,34,lit [],lit [],0,0))) else some (Step.next (d.1,d.2.1,d.2.2.1,G4 (d.2.2.2.1+1),kr d.2.2.2.2.2.1,d.2.2.2.2.2.2.1,d.2.2.2.2.2.2.2.1,kr d.2.2.2.2.2.2.2.2.1,d.2.2.2.2.2.2.2.2.2)) else some (Step.done (inr (a.1,a.2.1,a.2.2.1,kr a.2.2.2.2.1,a.2.2.2.2.2.1,a.2.2.2.2.2.2.1,kr a.2.2.2.2.2.2.2.1,a.2.2.2.2.2.2.2.2)))
def q4o (A:zh4):znk->G3 (Step znk zv7):=fun a=>if decide (a.2.2.1 < a.2.1)=true then ((zd a.2.2.2.1.K_ a.2.2.1).bind fun b=>(lpO (q4m A) (a.1,a.2.1,a.2.2.1,0,kr a.2.2.2.1,a.2.2.2.2.1,a.2.2.2.2.2.1,kr b,a.2.2.2.2.2.2)).bind fun c=>elim (fun d=>some (inl d)) (fun d=>(zd d.2.2.2.2.2.2.1.K_ 0).bind fun e=>(A (kr e,d.1)).bind fun i=>if (!i.2)=true then (zd d.2.2.2.2.2.2.1.K_ 0).bind fun j=>some (inl (j.a_,31,lit [],lit [],0,0)) else (lpO (q4n A) (d.1,d.2.1,d.2.2.1,0,kr d.2.2.2.1,d.2.2.2.2.1,d.2.2.2.2.2.1,kr d.2.2.2.2.2.2.1,i.1,d.2.2.2.2.2.2.2)).bind fun l=>elim (fun m=>some (inl m)) (fun m=>(zp 32 m.2.2.2.2.2.2.2.2 [qh.mk m.2.2.2.2.2.2.1.T_ m.2.2.2.2.2.2.2.1.M_ m.2.2.2.2.2.2.2.1.t_]).bind fun n=>some (inr (m.1,m.2.1,m.2.2.1,kr m.2.2.2.1,m.2.2.2.2.1,m.2.2.2.2.2.1,n))) l) c).bind fun b=>elim (fun c=>some (Step.done (inl c))) (fun c=>some (Step.next (c.1,c.2.1,G4 (c.2.2.1+1),kr c.2.2.2.1,c.2.2.2.2))) b else some (Step.done (inr (a.1,a.2.1,kr a.2.2.2.1,a.2.2.2.2)))
def q8f (A:zh4) (x:XY):G3 ziu:=if decide (8 < G4 (x.1.K_.len - 2))=true then some (qg.mk (lit []) (Sl.mk [] false) (qh.mk (lit []) 0 0),x.1.a_,22) else (lpO (q4o A) (x.2,G4 (x.1.K_.len - 2),0,kr x.1,(lit [],lit [],0,0),(x.1.T_,lit [],0,0),Sl.mk [] false)).bind fun a=>elim (fun b=>some (qg.mk b.2.2.1 (Sl.mk [] false) (qh.mk b.2.2.2.1 b.2.2.2.2.1 b.2.2.2.2.2),b.1,b.2.1)) (fun b=>(zd b.2.2.1.K_ b.2.1).bind fun c=>(A (kr c,b.1)).bind fun d=>if (!d.2)=true then (zd b.2.2.1.K_ b.2.1).bind fun e=>some (qg.mk (lit []) (Sl.mk [] false) (qh.mk (lit []) 0 0),e.a_,31) else some (qg.mk b.2.2.2.2.1.1 b.2.2.2.2.2 d.1,0,0)) a
def q3e:XY->G3 ziu:=q8f q1y
theorem qjm:@Eq ((XY)->G3 ziu) zqR.F q3e:=by delta q3e;rw [<-qix];kernel_rfl
def q49 (A:zs9):zie->G3 (Step zie (zY⊕Sl qg)):=fun a=>if decide (a.2.1 < a.2.2.1.K_.len)=true then ((zd a.2.2.1.K_ a.2.1).bind fun b=>if decide (b.k_≠6)=true then some (inl (a.1,a.2.1,kr a.2.2.1,a.2.2.2)) else (zd a.2.2.1.K_ a.2.1).bind fun c=>(A (kr c,a.1)).bind fun d=>if decide (d.2.2≠0)=true then some (inr d.2) else (zp 72 a.2.2.2 [d.1]).bind fun e=>some (inl (a.1,a.2.1,kr a.2.2.1,e))).bind fun b=>elim (fun c=>some (Step.next (c.1,G4 (c.2.1+1),kr c.2.2.1,c.2.2.2))) (fun c=>some (Step.done (inl c))) b else some (Step.done (inr a.2.2.2))
def q7n (A:zs9) (x:XY):G3 zin:=(lpO (q49 A) (x.2,0,kr x.1,Sl.mk [] false)).bind fun a=>elim (fun b=>some (b.1,b.2,Sl.mk [] false)) (fun b=>some (0,0,b)) a
def q1r:XY->G3 zin:=q7n q3e
theorem qen:@Eq ((XY)->G3 zin) zqS.F q1r:=by delta q1r;rw [<-qjm];kernel_rfl
def q3j (A:VY) (B:zh5) (C:zs2) (D:zh0) (E:zh6) (G:zs3):znq->G3 (Step znq zsL):=fun a=>if decide (a.2.2.2.2.1 < a.2.2.2.1)=true then (zd a.2.2.1 a.2.2.2.2.1).bind fun b=>(if decide (b.k_=6)=true then (zp 64 a.2.2.2.2.2.2.2.2.2.1 [kg b]).bind fun c=>(zd a.2.2.2.2.2.2.1.K_ a.2.2.2.2.1).bind fun d=>(zp 64 a.2.2.2.2.2.2.2.2.2.2 [kr d]).bind fun e=>some (a.1,a.2.1,a.2.2.1,a.2.2.2.1,a.2.2.2.2.1,a.2.2.2.2.2.1,kr a.2.2.2.2.2.2.1,a.2.2.2.2.2.2.2.1,a.2.2.2.2.2.2.2.2.1,c,e) else some (a.1,a.2.1,a.2.2.1,a.2.2.2.1,a.2.2.2.2.1,a.2.2.2.2.2.1,kr a.2.2.2.2.2.2.1,a.2.2.2.2.2.2.2)).bind fun c=>some (Step.next (c.1,c.2.1,c.2.2.1,c.2.2.2.1,G4 (c.2.2.2.2.1+1),c.2.2.2.2.2.1,kr c.2.2.2.2.2.2.1,c.2.2.2.2.2.2.2)) else some (Step.done (a.1,a.2.1,a.2.2.2.2.2.1,a.2.2.2.2.2.2.2))
def q5v (A:VY) (B:zh5) (C:zs2) (D:zh0) (E:zh6) (G:zs3) (x:Zs):G3 (qw×Bool):=(A x).bind fun a=>if decide (a.2.2≠0)=true then some (qw.mk (Sl.mk [] false) (Sl.mk [] false) (Sl.mk [] false) (Sl.mk [] false) (Sl.mk [] false) (Sl.mk [] false),false) else (B (kg a.1)).bind fun b=>(C (kg a.1,b.2.2)).bind fun c=>(D x).bind fun d=>(E (kr d.1)).bind fun e=>(G (kr d.1,e.2.2)).bind fun i=>(lpO (q3j A B C D E G) (b.2.1,c.2.1,a.1.K_,a.1.K_.len,0,c.2.2,kr d.1,i.2.2,(b.2.2,e.2.2),Sl.mk [] false,Sl.mk [] false)).bind fun j=>(if decide (j.1=0)=true then if decide (j.2.1=0)=true then if decide (Sl.len j.2.2.1=Sl.len j.2.2.2.2.2.1)=true then some (decide (Sl.len j.2.2.2.1=Sl.len j.2.2.2.2.2.1),j.2.2.2.2.1,j.2.2.2.2.2.1,j.2.2.1,j.2.2.2.2.2.2,j.2.2.2.1) else some (false,j.2.2.2.2.1,j.2.2.2.2.2.1,j.2.2.1,j.2.2.2.2.2.2,j.2.2.2.1) else some (false,j.2.2.2.2.1,j.2.2.2.2.2.1,j.2.2.1,j.2.2.2.2.2.2,j.2.2.2.1) else some (false,j.2.2.2.2.1,j.2.2.2.2.2.1,j.2.2.1,j.2.2.2.2.2.2,j.2.2.2.1)).bind fun l=>some (qw.mk l.2.2.1 l.2.1.1 l.2.2.2.1 l.2.2.2.2.1 l.2.1.2 l.2.2.2.2.2,l.1)
def q1c:zdw:=q5v q1o q3f q3y q22 q1t q1r
theorem q97:@Eq zdw zmH.F q1c:=by delta q1c;rw [<-q8p,<-qj9,<-qku,<-qaj,<-qdo,<-qen];kernel_rfl
def qah (x:zhS):G3 xD:=if (!x.1)=true then some (inl ((x.2.2.1.2.2,x.2.1),x.2.2)) else some (inr x.2.2)
def q2t:zhS->G3 xD:=qah
theorem qeo:@Eq ((zhS)->G3 xD) zjy.F q2t:=by kernel_rfl
def q94 (A:zrW) (x:znK):G3 xD:=(A (x.2.1,x.2.2.1,(x.2.2.2.1.1,x.2.2.2.1.2.1,x.1.a_),x.2.2.2.2)).bind fun a=>elim (fun b=>some (inl b)) (fun b=>some (inr b)) a
def q1v:znK->G3 xD:=q94 q2t
theorem qcj:@Eq ((znK)->G3 xD) zmI.F q1v:=by delta q1v;rw [<-qeo];kernel_rfl
def qbt (x:ziv):G3 Z0:=some (decide (x.1.N_=x.2),x.2)
def q60:ziv->G3 Z0:=qbt
theorem qkn:@Eq ((ziv)->G3 Z0) zmJ.F q60:=by kernel_rfl
def q4x (A:zs0):zn0->G3 (Step zn0 V1):=fun a=>if decide (a.2.2.1 < a.2.1)=true then (zd a.1 a.2.2.1).bind fun b=>(A (b,a.2.2.2)).bind fun c=>if c.1=true then some (Step.done (inl (a.2.2.1,c.2))) else some (Step.next (a.1,a.2.1,G4 (a.2.2.1+1),c.2)) else some (Step.done (inr a.2.2.2))
def qbh (A:zs0) (x:zio):G3 yt:=(lpO (q4x A) (x.1,Sl.len x.1,0,x.2)).bind fun a=>elim (fun b=>some b) (fun b=>some (-1,b)) a
def q9i:zio->G3 yt:=qbh q60
theorem qk6:@Eq ((zio)->G3 yt) zqT.F q9i:=by delta q9i;rw [<-qkn];kernel_rfl
def qd4 (A:zio->G3 yt) (x:qb×G0):Ga:=(A (x.1.V_,x.2)).bind fun a=>some a.1
def q2d:zfI:=qd4 q9i
theorem q5y:@Eq ((qb×G0)->G3 Int) zgk.F q2d:=by delta q2d;rw [<-qk6];kernel_rfl
def q3h (A:zki) (B:zfI) (C:zbS) (D:zrW):zni->G3 (Step zni zwb):=fun a=>if decide (a.2.2.2.1 < a.2.2.1)=true then ((zd a.2.1 a.2.2.2.1).bind fun b=>(zd b.K_ 0).bind fun c=>(B (qb.mk a.2.2.2.2.2.2.2.2.1.1 a.2.2.2.2.2.2.2.2.1.2 a.2.2.2.2.2.2.2.2.2,b.T_)).bind fun d=>(A (kg b,decide (d < 0),30,a.2.2.2.2.1,a.2.2.2.2.2.1)).bind fun e=>elim (fun i=>some (inl i)) (fun i=>(if decide (c.T_=lit [105,110,116])=true then (A (kg c,true,34,i)).bind fun j=>elim (fun l=>some (inl l)) (fun l=>some (inr (a.1,a.2.1,a.2.2.1,a.2.2.2.1,l.1,l.2,kg a.2.2.2.2.2.2.1,a.2.2.2.2.2.2.2.1,a.2.2.2.2.2.2.2.2.1,kg b,kg c,a.2.2.2.2.2.2.2.2.2))) j else (A (kg c,decide (c.T_=lit [111,119,110]),34,i)).bind fun l=>elim (fun m=>some (inl m)) (fun m=>some (inr (a.1,a.2.1,a.2.2.1,a.2.2.2.1,m.1,m.2,kg a.2.2.2.2.2.2.1,a.2.2.2.2.2.2.2.1,a.2.2.2.2.2.2.2.2.1,kg b,kg c,a.2.2.2.2.2.2.2.2.2))) l).bind fun j=>elim (fun l=>some (inl l)) (fun l=>(if decide (l.2.2.2.2.2.2.2.2.2.2.1.T_=lit [111,119,110])=true then (zd l.2.2.2.2.2.2.2.2.2.2.1.K_ 0).bind fun m=>(C (l.2.2.2.2.1.2.1,m.T_)).bind fun n=>(D (decide (0<=n),31,l.2.2.2.2.1,l.2.2.2.2.2.1)).bind fun o=>elim (fun p=>some (inl p)) (fun p=>some (inr (l.1,l.2.1,l.2.2.1,l.2.2.2.1,p.1,p.2,kg l.2.2.2.2.2.2.1,l.2.2.2.2.2.2.2.1,l.2.2.2.2.2.2.2.2.1,qf.mk l.2.2.2.2.2.2.2.2.2.1.T_ 2 n,l.2.2.2.2.2.2.2.2.2.2.2))) o else some (inr (l.1,l.2.1,l.2.2.1,l.2.2.2.1,l.2.2.2.2.1,l.2.2.2.2.2.1,kg l.2.2.2.2.2.2.1,l.2.2.2.2.2.2.2.1,l.2.2.2.2.2.2.2.2.1,qf.mk l.2.2.2.2.2.2.2.2.2.1.T_ 1 0,l.2.2.2.2.2.2.2.2.2.2.2))).bind fun m=>elim (fun n=>some (inl n)) (fun n=>(zp 32 n.2.2.2.2.2.2.2.2.2.2 [n.2.2.2.2.2.2.2.2.2.1]).bind fun o=>some (inr (n.1,n.2.1,n.2.2.1,n.2.2.2.1,n.2.2.2.2.1,n.2.2.2.2.2.1,kg n.2.2.2.2.2.2.1,n.2.2.2.2.2.2.2.1,n.2.2.2.2.2.2.2.2.1,o))) m) j) e).bind fun b=>elim (fun c=>some (Step.done (inl c))) (fun c=>some (Step.next (c.1,c.2.1,c.2.2.1,G4 (c.2.2.2.1+1),c.2.2.2.2.1,c.2.2.2.2.2.1,kg c.2.2.2.2.2.2.1,c.2.2.2.2.2.2.2))) b else some (Step.done (inr (a.1,a.2.2.2.2.1,a.2.2.2.2.2.1,kg a.2.2.2.2.2.2.1,a.2.2.2.2.2.2.2)))
def q7p (A:zki) (B:zfI) (C:zbS) (D:zrW) (x:znX):G3 zkj:=(A (kg x.1,decide (G4 (x.1.K_.len - 2)<=8),22,x.2)).bind fun a=>elim (fun b=>some (inl b)) (fun b=>(Zv x.1.K_ 0 (G4 (x.1.K_.len - 2))).bind fun c=>(lpO (q3h A B C D) (G4 (x.1.K_.len - 2),c,c.len,0,b.1,b.2,kg x.1,(lit [],0),(x.1.T_,G4 (x.1.K_.len - 2)),Sl.mk [] false)).bind fun d=>elim (fun e=>some (inl e)) (fun e=>(zd e.2.2.2.1.K_ e.1).bind fun i=>(zd e.2.2.2.1.K_ e.1).bind fun j=>(A (kg i,decide (j.T_=lit []),35,e.2.1,e.2.2.1)).bind fun l=>elim (fun m=>some (inl m)) (fun m=>some (inr (e.2.2.2.2.2.1,m.1,m.2,e.2.2.2.2.2.2))) l) d) a
def q2u:znX->G3 zkj:=q7p q1v q2d q23 q2t
theorem qiy:@Eq ((znX)->G3 zkj) zqU.F q2u:=by delta q2u;rw [<-qcj,<-q5y,<-q9j,<-qeo];kernel_rfl
def q95 (x:zhO):G3 zK:=if (!x.1)=true then some (inl ((x.2.2.1.2.2.1,x.2.1),x.2.2)) else some (inr x.2.2)
def q14:zhO->G3 zK:=q95
theorem q2l:@Eq ((zhO)->G3 zK) Wg.F q14:=by kernel_rfl
def q6n (A:zfI) (B:Wr) (x:znL):G3 Wt:=(zd x.2.2 x.2.1.2.2.2).bind fun a=>(zd x.2.2 x.2.1.2.2.2).bind fun b=>(A (qb.mk a.N_ a.P_ b.V_,x.1)).bind fun c=>(B (decide (0<=c),31,x.2)).bind fun d=>elim (fun e=>some (inl e)) (fun e=>(zd e.2 e.1.2.2.2).bind fun i=>(zd e.2 e.1.2.2.2).bind fun j=>(zd j.V_ c).bind fun l=>(zd e.2 e.1.2.2.2).bind fun m=>(zd m.V_ c).bind fun n=>some (inr (qf.mk (lit []) n.M_ n.t_,e))) d
def q3i:znL->G3 Wt:=q6n q2d q14
theorem qdp:@Eq ((znL)->G3 Wt) zmL.F q3i:=by delta q3i;rw [<-q5y,<-q2l];kernel_rfl
def q96 (x:qd×q7):G3 zfQ:=some (decide (x.1.N_=x.2.T_),kg x.2)
def q3z:qd×q7->G3 zfQ:=q96
theorem qhc:@Eq ((qd×q7)->G3 zfQ) zmM.F q3z:=by kernel_rfl
def q61 (A:ztg):zn9->G3 (Step zn9 (Int×q7⊕q7)):=fun a=>if decide (a.2.2.1 < a.2.1)=true then (zd a.1 a.2.2.1).bind fun b=>(A (b,kg a.2.2.2)).bind fun c=>if c.1=true then some (Step.done (inl (a.2.2.1,kg c.2))) else some (Step.next (a.1,a.2.1,G4 (a.2.2.1+1),kg c.2)) else some (Step.done (inr (kg a.2.2.2)))
def qa4 (A:ztg) (x:Sl qd×q7):G3 (Int×q7):=(lpO (q61 A) (x.1,Sl.len x.1,0,kg x.2)).bind fun a=>elim (fun b=>some (b.1,kg b.2)) (fun b=>some (-1,kg b)) a
def q6g:Sl qd×q7->G3 (Int×q7):=qa4 q3z
theorem qkx:@Eq ((Sl qd×q7)->G3 (Int×q7)) zqV.F q6g:=by delta q6g;rw [<-qhc];kernel_rfl
def q8g (A:Wr) (B:zv5) (x:znP):G3 zK:=if decide (x.1.T_=lit [])=true then (A (decide (x.2.1.M_=1),40,x.2.2)).bind fun a=>elim (fun b=>some (inl b)) (fun b=>some (inr b)) a else (B (x.1.T_,x.2.2)).bind fun b=>elim (fun c=>some (inl c)) (fun c=>(if decide (x.2.1.M_=1)=true then (A (decide (c.1.M_=1),40,c.2)).bind fun d=>elim (fun e=>some (inl e)) (fun e=>some (inr e)) d else (if decide (x.2.1.M_=3)=true then some (decide (c.1.M_=4),c.2.1,c.2.2,kg x.1,x.2.1,c.1) else some (false,c.2.1,c.2.2,kg x.1,x.2.1,c.1)).bind fun e=>(if e.1=true then (if decide (e.2.2.2.1.n_=0)=true then (A (decide (e.2.2.2.2.2.t_=e.2.2.2.2.1.t_),40,e.2.1,e.2.2.1)).bind fun i=>elim (fun j=>some (inl j)) (fun j=>some (inr j)) i else (A (false,40,e.2.1,e.2.2.1)).bind fun j=>elim (fun l=>some (inl l)) (fun l=>some (inr l)) j).bind fun i=>elim (fun j=>some (inl j)) (fun j=>some (inr j)) i else (if decide (e.2.2.2.1.n_=0)=true then if decide (e.2.2.2.2.2.M_=e.2.2.2.2.1.M_)=true then (A (decide (e.2.2.2.2.2.t_=e.2.2.2.2.1.t_),40,e.2.1,e.2.2.1)).bind fun j=>elim (fun l=>some (inl l)) (fun l=>some (inr l)) j else (A (false,40,e.2.1,e.2.2.1)).bind fun l=>elim (fun m=>some (inl m)) (fun m=>some (inr m)) l else (A (false,40,e.2.1,e.2.2.1)).bind fun m=>elim (fun n=>some (inl n)) (fun n=>some (inr n)) m).bind fun j=>elim (fun l=>some (inl l)) (fun l=>some (inr l)) j).bind fun i=>elim (fun j=>some (inl j)) (fun j=>some (inr j)) i).bind fun d=>elim (fun e=>some (inl e)) (fun e=>some (inr e)) d) b
def q1d:znP->G3 zK:=q8g q14 q3i
theorem qbj:@Eq ((znP)->G3 zK) zgl.F q1d:=by delta q1d;rw [<-q2l,<-qdp];kernel_rfl
def q5i (A:Wr) (B:zeA):zny->G3 (Step zny zK):=fun a=>if decide (a.2.2.2.1 < a.2.2.1)=true then (zd a.2.1 a.2.2.2.1).bind fun b=>(zd a.1 a.2.2.2.1).bind fun c=>(B (kg b,c,a.2.2.2.2)).bind fun d=>elim (fun e=>some (Step.done (inl e))) (fun e=>some (Step.next (a.1,a.2.1,a.2.2.1,G4 (a.2.2.2.1+1),e))) d else some (Step.done (inr a.2.2.2.2))
def q7q (A:Wr) (B:zeA) (x:zhN):G3 zK:=(A (decide (Sl.len x.1=Sl.len x.2.1),51,x.2.2)).bind fun a=>elim (fun b=>some (inl b)) (fun b=>(lpO (q5i A B) (x.2.1,x.1,Sl.len x.1,0,b)).bind fun c=>elim (fun d=>some (inl d)) (fun d=>some (inr d)) c) a
def q4p:zhN->G3 zK:=q7q q14 q1d
theorem qiz:@Eq ((zhN)->G3 zK) zqX.F q4p:=by delta q4p;rw [<-q2l,<-qbj];kernel_rfl
def q7r (A:Sl qd×q7->G3 (Int×q7)) (B:Wr) (C:zhN->G3 zK) (x:zds):G3 Wt:=(A (x.2.1.1,kg x.1)).bind fun a=>(B (decide (0<=a.1),31,x.2)).bind fun b=>elim (fun c=>some (inl c)) (fun c=>(zd c.1.1 a.1).bind fun d=>(C (a.2.K_,d.P_,c)).bind fun e=>elim (fun i=>some (inl i)) (fun i=>(zd i.1.1 a.1).bind fun j=>some (inr (j.R_,i))) e) b
def q1s:zds->G3 Wt:=q7r q6g q14 q4p
theorem qep:@Eq ((zds)->G3 Wt) zjz.F q1s:=by delta q1s;rw [<-qkx,<-q2l,<-qiz];kernel_rfl
def q7s (A:zv5) (B:Wr) (C:zne) (x:zds):G3 znn:=(if decide (x.1.k_=5)=true then if decide (x.1.T_=lit [])=true then some (inl (x.2.1,x.2.2,qf.mk (lit []) 1 0)) else (A (x.1.T_,x.2)).bind fun a=>elim (fun b=>some (inr (inl b))) (fun b=>(if decide (x.1.n_=0)=true then (B (true,40,b.2)).bind fun c=>elim (fun d=>some (inl d)) (fun d=>some (inr (d.1,d.2,qf.mk (lit []) 0 0,b.1))) c else (B (decide (b.1.M_=1),40,b.2)).bind fun d=>elim (fun e=>some (inl e)) (fun e=>some (inr (e.1,e.2,qf.mk (lit []) 0 0,b.1))) d).bind fun c=>elim (fun d=>some (inr (inl d))) (fun d=>some (inl (d.1,d.2.1,d.2.2.2))) c) a else (if decide (x.1.k_=21)=true then some (x.1.k_,decide (x.1.k_=21),x.2.1,x.2.2,kg x.1,qf.mk (lit []) 0 0,qf.mk (lit []) 1 0) else some (x.1.k_,decide (x.1.k_=22),x.2.1,x.2.2,kg x.1,qf.mk (lit []) 0 0,qf.mk (lit []) 1 0)).bind fun b=>(if b.2.1=true then ((zd b.2.2.2.2.1.K_ 0).bind fun c=>(zd b.2.2.2.2.1.K_ 1).bind fun d=>(A (c.T_,b.2.2.1,b.2.2.2.1)).bind fun e=>elim (fun i=>some (inl i)) (fun i=>(A (d.T_,i.2)).bind fun j=>elim (fun l=>some (inl l)) (fun l=>some (inr (l.2.1,l.2.2,b.2.2.2.2.2.1,b.2.2.2.2.2.2,i.1,l.1))) j) e).bind fun c=>elim (fun d=>some (inl d)) (fun d=>(if decide (d.2.2.2.2.1.M_=1)=true then (B (decide (d.2.2.2.2.2.M_=1),40,d.1,d.2.1)).bind fun e=>elim (fun i=>some (inl i)) (fun i=>some (inr (i.1,i.2,d.2.2.1,d.2.2.2.1))) e else (B (false,40,d.1,d.2.1)).bind fun i=>elim (fun j=>some (inl j)) (fun j=>some (inr (j.1,j.2,d.2.2.1,d.2.2.2.1))) i).bind fun e=>elim (fun i=>some (inl i)) (fun i=>some (inr (inl (i.1,i.2.1,i.2.2.2)))) e) c else (if decide (b.1=26)=true then some (b.1,decide (b.1=26),b.2.2.1,b.2.2.2.1,kg b.2.2.2.2.1,b.2.2.2.2.2) else some (b.1,decide (b.1=27),b.2.2.1,b.2.2.2.1,kg b.2.2.2.2.1,b.2.2.2.2.2)).bind fun d=>(if d.2.1=true then (A (d.2.2.2.2.1.T_,d.2.2.1,d.2.2.2.1)).bind fun e=>elim (fun i=>some (inl i)) (fun i=>(B (decide (i.1.M_=2),40,i.2)).bind fun j=>elim (fun l=>some (inl l)) (fun l=>(if decide (d.2.2.2.2.1.k_=27)=true then some (l.1,l.2,d.2.2.2.2.2.1,qf.mk i.1.N_ 4 i.1.t_) else some (l.1,l.2,d.2.2.2.2.2.1,qf.mk i.1.N_ 3 i.1.t_)).bind fun m=>some (inr (inl (m.1,m.2.1,m.2.2.2)))) j) e else (if decide (d.1=28)=true then (C (kg d.2.2.2.2.1,d.2.2.1,d.2.2.2.1)).bind fun i=>elim (fun j=>some (inl j)) (fun j=>(B (decide (j.1.M_≠0),35,j.2)).bind fun l=>elim (fun m=>some (inl m)) (fun m=>some (inr (inl (m.1,m.2,j.1)))) l) i else some (inr (inr (d.2.2.1,d.2.2.2.1,d.2.2.2.2.2)))).bind fun i=>elim (fun j=>some (inl j)) (fun j=>elim (fun l=>some (inr (inl l))) (fun l=>some (inr (inr l))) j) i).bind fun e=>elim (fun i=>some (inl i)) (fun i=>elim (fun j=>some (inr (inl j))) (fun j=>some (inr (inr j))) i) e).bind fun c=>elim (fun d=>some (inr (inl d))) (fun d=>elim (fun e=>some (inl e)) (fun e=>some (inr (inr e))) d) c).bind fun a=>elim (fun b=>some (inl (b.2.2,b.1,b.2.1))) (fun b=>elim (fun c=>some (inr c)) (fun c=>(B (false,50,c.1,c.2.1)).bind fun d=>elim (fun e=>some (inr e)) (fun e=>some (inl (c.2.2.2,e))) d) b) a
def q1z:zds->G3 znn:=q7s q3i q14 q1s
theorem qj0:@Eq ((zds)->G3 znn) zmN.F q1z:=by delta q1z;rw [<-qdp,<-q2l,<-qep];kernel_rfl
def q8h (A:zfI) (B:Wr) (x:znI):G3 zK:=(zd x.2.2.2 x.2.2.1.2.2.2).bind fun a=>(zd x.2.2.2 x.2.2.1.2.2.2).bind fun b=>(A (qb.mk a.N_ a.P_ b.V_,x.1)).bind fun c=>if decide (0<=c)=true then (zd x.2.2.2 x.2.2.1.2.2.2).bind fun d=>(zd x.2.2.2 x.2.2.1.2.2.2).bind fun e=>(zd e.V_ c).bind fun i=>(zd x.2.2.2 x.2.2.1.2.2.2).bind fun j=>(zd j.V_ c).bind fun l=>(B (decide (l.N_=x.1) && (decide (l.M_=x.2.1.M_) && (decide (l.t_=x.2.1.t_) && true)),40,x.2.2)).bind fun m=>elim (fun n=>some (inl n)) (fun n=>some (inr n)) m else (zd x.2.2.2 x.2.2.1.2.2.2).bind fun n=>(zd x.2.2.2 x.2.2.1.2.2.2).bind fun o=>(zp 32 o.V_ [qf.mk x.1 x.2.1.M_ x.2.1.t_]).bind fun p=>(zd x.2.2.2 x.2.2.1.2.2.2).bind fun r=>bif decide (x.2.2.1.2.2.2=x.2.2.1.2.2.2) then some (inr (x.2.2.1,Sl.set x.2.2.2 x.2.2.1.2.2.2 (qb.mk r.N_ r.P_ p))) else none
def q2q:znI->G3 zK:=q8h q2d q14
theorem qjn:@Eq ((znI)->G3 zK) zmO.F q2q:=by delta q2q;rw [<-q5y,<-q2l];kernel_rfl
def q8t (x:qb×q7):Gj:=some (decide (x.1.N_=x.2.T_))
def q3o:qb×q7->Gj:=q8t
theorem qgt:@Eq ((qb×q7)->G3 Bool) zmP.F q3o:=by kernel_rfl
def q5j (A:qb×q7->Gj):zoa->G3 (Step zoa ztf):=fun a=>if decide (a.2.1 < a.1)=true then (zd a.2.2.1 a.2.1).bind fun b=>(zd a.2.2.1 a.2.1).bind fun c=>(zd a.2.2.1 a.2.1).bind fun d=>(A (qb.mk c.N_ c.P_ d.V_,kg a.2.2.2)).bind fun e=>if e=true then some (Step.done (inl (a.2.1,a.2.2.1,kg a.2.2.2))) else some (Step.next (a.1,G4 (a.2.1+1),a.2.2.1,kg a.2.2.2)) else some (Step.done (inr (a.2.2.1,kg a.2.2.2)))
def q9g (A:qb×q7->Gj) (x:Gs×q7):G3 zfM:=(lpO (q5j A) (Sl.len x.1,0,x.1,kg x.2)).bind fun a=>elim (fun b=>some (b.1,b.2.1,kg b.2.2)) (fun b=>some (-1,b.1,kg b.2)) a
def q35:Gs×q7->G3 zfM:=q9g q3o
theorem qko:@Eq ((Sl qb×q7)->G3 zfM) zmQ.F q35:=by delta q35;rw [<-qgt];kernel_rfl
def q4r (A:Wr) (B:zeA):znv->G3 (Step znv zK):=fun a=>if decide (a.2.2.2.1 < a.2.2.1)=true then (zd a.2.1 a.2.2.2.1).bind fun b=>(zd a.2.2.2.2.2 a.1.1).bind fun c=>(Zv c.V_ a.1.2.1 a.1.2.2).bind fun d=>(zd d a.2.2.2.1).bind fun e=>(zd a.2.2.2.2.2 a.1.1).bind fun i=>(zd i.V_ (a.1.2.1+a.2.2.2.1)).bind fun j=>(B (kg b,j,a.2.2.2.2)).bind fun l=>elim (fun m=>some (Step.done (inl m))) (fun m=>some (Step.next (a.1,a.2.1,a.2.2.1,G4 (a.2.2.2.1+1),m))) l else some (Step.done (inr a.2.2.2.2))
def q67 (A:Wr) (B:zeA) (x:znz):G3 zK:=(zd x.2.2.2 x.2.1.1).bind fun a=>(Zv a.V_ x.2.1.2.1 x.2.1.2.2).bind fun b=>(A (decide (Sl.len x.1=x.2.1.2.2 - x.2.1.2.1),51,x.2.2)).bind fun c=>elim (fun d=>some (inl d)) (fun d=>(lpO (q4r A B) (x.2.1,x.1,Sl.len x.1,0,d)).bind fun e=>elim (fun i=>some (inl i)) (fun i=>some (inr i)) e) c
def q1p:znz->G3 zK:=q67 q14 q1d
theorem qhd:@Eq ((znz)->G3 zK) zmR.F q1p:=by delta q1p;rw [<-q2l,<-qbj];kernel_rfl
def q40 (A:zrU) (B:zrS) (C:zne) (D:znR) (E:Wr) (G:tA8) (H:zeA) (I:zgC):zsc->G3 (Step zsc zcY):=fun a=>if decide (a.2.2.2.2.2.1 < a.2.2.2.2.1)=true then (zd a.2.2.2.1 a.2.2.2.2.2.1).bind fun b=>(I (b.K_,a.2.2.2.2.2.2.1,a.2.2.2.2.2.2.2.1)).bind fun c=>elim (fun d=>some (Step.done (inl d))) (fun d=>some (Step.next (a.1,a.2.1,a.2.2.1,a.2.2.2.1,a.2.2.2.2.1,G4 (a.2.2.2.2.2.1+1),d.1,d.2,a.2.2.2.2.2.2.2.2))) c else some (Step.done (inr (a.1,a.2.1,a.2.2.1,a.2.2.2.2.2.2)))
def q1w (A:zrU) (B:zrS) (C:zne) (D:znR) (E:Wr) (G:tA8) (H:zeA) (I:zgC):wR->G3 (Step wR zK):=fun a=>if decide (a.2.2.1 < a.2.1)=true then (zd a.1 a.2.2.1).bind fun b=>(if decide (b.k_=10)=true then ((zd b.K_ 0).bind fun c=>(A (kg c,(a.2.2.2.1.1,a.2.2.2.1.2.1,b.a_,a.2.2.2.1.2.2.2),a.2.2.2.2.1)).bind fun d=>elim (fun e=>(B (b.T_,e)).bind fun i=>elim (fun j=>some (inl j)) (fun j=>some (inr (a.1,a.2.1,a.2.2.1,j.1,j.2,a.2.2.2.2.2))) i) (fun e=>some (inl e)) d).bind fun c=>elim (fun d=>some (inl d)) (fun d=>some (inr d)) c else (if decide (b.k_=20)=true then (zd b.K_ 0).bind fun d=>(C (kg d,(a.2.2.2.1.1,a.2.2.2.1.2.1,b.a_,a.2.2.2.1.2.2.2),a.2.2.2.2.1)).bind fun e=>elim (fun i=>some (inl i)) (fun i=>some (inr (a.1,a.2.1,a.2.2.1,i.2.1,i.2.2,a.2.2.2.2.2))) e else (if decide (b.k_=19)=true then (D (a.2.2.2.2.1,kg b)).bind fun i=>(E (decide (0<=i.1),31,(a.2.2.2.1.1,a.2.2.2.1.2.1,b.a_,a.2.2.2.1.2.2.2),i.2.1)).bind fun j=>elim (fun l=>some (inl l)) (fun l=>(zd l.2 i.1).bind fun m=>(zd l.2 i.1).bind fun n=>(zd l.2 i.1).bind fun o=>(zd l.2 i.1).bind fun p=>(zd l.2 i.1).bind fun r=>(Zv r.V_ 0 p.P_).bind fun s=>(G (i.2.2.K_,(i.1,0,p.P_),l)).bind fun t=>elim (fun u=>some (inl u)) (fun u=>some (inr (a.1,a.2.1,a.2.2.1,u.1,u.2,a.2.2.2.2.2))) t) j else (if decide (b.k_=15)=true then some (a.1,a.2.1,a.2.2.1,b.k_,decide (b.k_=15),(a.2.2.2.1.1,a.2.2.2.1.2.1,b.a_,a.2.2.2.1.2.2.2),a.2.2.2.2.1,a.2.2.2.2.2,kg b) else some (a.1,a.2.1,a.2.2.1,b.k_,decide (b.k_=16),(a.2.2.2.1.1,a.2.2.2.1.2.1,b.a_,a.2.2.2.1.2.2.2),a.2.2.2.2.1,a.2.2.2.2.2,kg b)).bind fun l=>(if l.2.2.2.2.1=true then (zd l.2.2.2.2.2.2.2.2.K_ 0).bind fun m=>(H (kg m,l.2.2.2.2.2.2.2.1,l.2.2.2.2.2.1,l.2.2.2.2.2.2.1)).bind fun n=>elim (fun o=>some (inl o)) (fun o=>(zd l.2.2.2.2.2.2.2.2.K_ 1).bind fun p=>(H (kg p,l.2.2.2.2.2.2.2.1,o)).bind fun r=>elim (fun s=>some (inl s)) (fun s=>(Zv l.2.2.2.2.2.2.2.2.K_ 2 l.2.2.2.2.2.2.2.2.K_.len).bind fun t=>(lpO (q40 A B C D E G H I) (l.1,l.2.1,l.2.2.1,t,t.len,0,s.1,s.2,l.2.2.2.2.2.2.2.1)).bind fun u=>elim (fun v=>some (inl v)) (fun v=>some (inr v)) u) r) n else (if decide (l.2.2.2.1=17)=true then (E (decide (l.2.2.2.2.2.2.2.2.K_.len=0),35,l.2.2.2.2.2.1,l.2.2.2.2.2.2.1)).bind fun o=>elim (fun p=>some (inl p)) (fun p=>some (inr (l.1,l.2.1,l.2.2.1,p.1,p.2,l.2.2.2.2.2.2.2.1))) o else (if decide (l.2.2.2.1=18)=true then some (inl (l.1,l.2.1,l.2.2.1,l.2.2.2.2.2.1,l.2.2.2.2.2.2.1,l.2.2.2.2.2.2.2.1)) else (E (false,50,l.2.2.2.2.2.1,l.2.2.2.2.2.2.1)).bind fun p=>elim (fun r=>some (inr r)) (fun r=>some (inl (l.1,l.2.1,l.2.2.1,r.1,r.2,l.2.2.2.2.2.2.2.1))) p).bind fun p=>elim (fun r=>some (inr r)) (fun r=>some (inl r)) p).bind fun o=>elim (fun p=>some (inl p)) (fun p=>some (inr p)) o).bind fun m=>elim (fun n=>some (inl n)) (fun n=>some (inr n)) m).bind fun i=>elim (fun j=>some (inl j)) (fun j=>some (inr j)) i).bind fun d=>elim (fun e=>some (inl e)) (fun e=>some (inr e)) d).bind fun c=>elim (fun d=>some (Step.done (inl d))) (fun d=>some (Step.next (d.1,d.2.1,G4 (d.2.2.1+1),d.2.2.2))) c else some (Step.done (inr (a.2.2.2.1,a.2.2.2.2.1)))
def q55 (A:zrU) (B:zrS) (C:zne) (D:znR) (E:Wr) (G:tA8) (H:zeA) (I:zgC) (x:zsY):G3 zK:=(lpO (q1w A B C D E G H I) (x.1,Sl.len x.1,0,x.2.1,x.2.2,qf.mk (lit []) 1 0)).bind fun a=>elim (fun b=>some (inl b)) (fun b=>some (inr b)) a
def q41 (h:zbN):zbN:=q55 q1z q2q q1s q35 q14 q1p q1d h
theorem qhe (h:zbN):@Eq zbN (zhC h) (q41 h):=by delta q41;rw [<-qj0,<-qjn,<-qep,<-qko,<-q2l,<-qhd,<-qbj];kernel_rfl
def q27:Nat->zsY->G3 zK
  |0=>fun _=>none
  |k+1=>q41 (q27 k)
theorem qck:∀ k,@Eq zbN (zfd k) (q27 k)
  |0=>rfl
  |k+1=>(qhe (zfd k)).trans (congrArg q41 (qck k))
def q33:zbN:=q27 100000
theorem qi5:@Eq zbN zvf q33:=qck 100000
def qd0 (x:q7):G3 q7:=if decide (x.K_.len=0)=true then some (q7.mk 0 (lit []) 0 0 (Sl.mk [] false)) else (zd x.K_ 0).bind fun a=>some (kg a)
def q8r:ziw:=qd0
theorem qlg:@Eq ziw zjA.F q8r:=by kernel_rfl
def qgk (x:q7):G3 qt:=some (qt.mk x.T_ x.n_)
def q8o:zbV:=qgk
theorem qhf:@Eq zbV zgm.F q8o:=by kernel_rfl
def qfo (A:zbV) (x:q7×Int):G3 qt:=if decide (x.1.K_.len<=x.2)=true then some (qt.mk (lit []) 0) else (zd x.1.K_ x.2).bind fun a=>(A (kg a)).bind fun b=>some b
def q2y:zob:=qfo q8o
theorem qj1:@Eq ((q7×Int)->G3 qt) zep.F q2y:=by delta q2y;rw [<-qhf];kernel_rfl
def qbq (A:zbV):zn3->G3 (Step zn3 (Sl qt)):=fun a=>if decide (a.2.2.1 < a.2.1)=true then (zd a.1 a.2.2.1).bind fun b=>(A (kg b)).bind fun c=>(zp 24 a.2.2.2 [c]).bind fun d=>some (Step.next (a.1,a.2.1,G4 (a.2.2.1+1),d)) else some (Step.done a.2.2.2)
def qgl (A:zbV) (x:q7):G3 (Sl qt):=(lpO (qbq A) (x.K_,x.K_.len,0,Sl.mk [] false)).bind fun a=>some a
def q9r:zij:=qgl q8o
theorem qkv:@Eq zij zjB.F q9r:=by delta q9r;rw [<-qhf];kernel_rfl
def qa2 (x:qi×Sl qi):G3 vn:=(zp 136 x.2 [x.1]).bind fun a=>some (G4 (a.len - 1),a)
def q2f:qi×Sl qi->G3 vn:=qa2
theorem qb4:@Eq ((qi×Sl qi)->G3 vn) zbs.F q2f:=by kernel_rfl
def qa3 (A:zob) (B:zij) (C:zbV) (D:zfG) (x:zir):G3 (Sl qi):=(if decide (x.2.1.k_=21)=true then some (x.2.1.k_,decide (x.2.1.k_=21),x.2.2,kg x.2.1,0,x.1.a_,x.1.T_,lit [],lit [],0,lit [],0,0,false) else some (x.2.1.k_,decide (x.2.1.k_=22),x.2.2,kg x.2.1,0,x.1.a_,x.1.T_,lit [],lit [],0,lit [],0,0,false)).bind fun a=>(if a.2.1=true then (A (kg a.2.2.2.1,0)).bind fun b=>(A (kg a.2.2.2.1,1)).bind fun c=>some (a.2.2.1,(G4 (1+G4 (a.2.2.2.1.k_ - 21)),a.2.2.2.2.2.1,a.2.2.2.2.2.2.1,a.2.2.2.2.2.2.2.1,b.N_,b.n_,c.N_,c.n_,a.2.2.2.2.2.2.2.2.2.2.2.2),Sl.mk [] false) else (if decide (a.1=23)=true then some (a.2.2.1,(3,a.2.2.2.2.2.1,a.2.2.2.2.2.2.1,a.2.2.2.2.2.2.2.1,lit [],a.2.2.2.1.n_,a.2.2.2.2.2.2.2.2.2.2),Sl.mk [] false) else (if decide (a.1=24)=true then some (a.2.2.1,(4,a.2.2.2.2.2.1,a.2.2.2.2.2.2.1,a.2.2.2.2.2.2.2.1,a.2.2.2.1.T_,0,a.2.2.2.2.2.2.2.2.2.2),Sl.mk [] false) else (if decide (a.1=25)=true then (A (kg a.2.2.2.1,0)).bind fun d=>some (a.2.2.1,(5,a.2.2.2.2.2.1,a.2.2.2.2.2.2.1,a.2.2.2.1.T_,d.N_,d.n_,a.2.2.2.2.2.2.2.2.2.2),Sl.mk [] false) else (if decide (a.1=28)=true then (B (kg a.2.2.2.1)).bind fun e=>some (a.2.2.1,(12,a.2.2.2.2.2.1,a.2.2.2.2.2.2.1,a.2.2.2.1.T_,a.2.2.2.2.2.2.2.2),e) else (if decide (a.1=26)=true then some (decide (a.1=26),a.2.2.1,kg a.2.2.2.1,a.2.2.2.2) else some (decide (a.1=27),a.2.2.1,kg a.2.2.2.1,a.2.2.2.2)).bind fun i=>(if i.1=true then some (i.2.1,i.2.2.2.1,i.2.2.2.2.1,i.2.2.2.2.2.1,i.2.2.2.2.2.2.1,i.2.2.1.T_,0,i.2.2.2.2.2.2.2.2.2) else (C (kg i.2.2.1)).bind fun j=>some (i.2.1,i.2.2.2.1,i.2.2.2.2.1,i.2.2.2.2.2.1,i.2.2.2.2.2.2.1,j.N_,j.n_,i.2.2.2.2.2.2.2.2.2)).bind fun j=>some (j.1,j.2,Sl.mk [] false)).bind fun e=>some e).bind fun d=>some d).bind fun d=>some d).bind fun d=>some d).bind fun b=>(D (qi.mk b.2.1.1 b.2.1.2.1 b.2.1.2.2.1 b.2.1.2.2.2.1 (qt.mk b.2.1.2.2.2.2.1 b.2.1.2.2.2.2.2.1) (qt.mk b.2.1.2.2.2.2.2.2.1 b.2.1.2.2.2.2.2.2.2.1) b.2.2 b.2.1.2.2.2.2.2.2.2.2.1 b.2.1.2.2.2.2.2.2.2.2.2,b.1)).bind fun c=>some c.2
def q57:zir->G3 (Sl qi):=qa3 q2y q9r q8o q2f
theorem qky:@Eq ((zir)->G3 (Sl qi)) zmU.F q57:=by delta q57;rw [<-qj1,<-qkv,<-qhf,<-qb4];kernel_rfl
def q3r (A:zob) (B:zfG) (C:zdA) (x:q7×Sl qi):G3 (Sl qi):=if decide (x.1.K_.len < 3)=true then some x.2 else (A (kg x.1,0)).bind fun a=>(A (kg x.1,1)).bind fun b=>(B (qi.mk 10 x.1.a_ x.1.T_ (lit []) a b (Sl.mk [] false) 0 false,x.2)).bind fun c=>(zd x.1.K_ 2).bind fun d=>(C (kg d,c.2)).bind fun e=>(B (qi.mk 11 x.1.a_ (lit []) (lit []) (qt.mk (lit []) 0) (qt.mk (lit []) 0) (Sl.mk [] false) c.1 false,e)).bind fun i=>(zd i.2 c.1).bind fun j=>(zd i.2 c.1).bind fun l=>(if decide (x.1.k_=15)=true then some (i.1,decide (3 < x.1.K_.len),kg x.1,Sl.set i.2 c.1 (qi.mk l.O_ l.a_ l.X_ l.Y_ l.A_ l.B_ l.W_ (Sl.len i.2) l.H_)) else some (i.1,false,kg x.1,Sl.set i.2 c.1 (qi.mk l.O_ l.a_ l.X_ l.Y_ l.A_ l.B_ l.W_ (Sl.len i.2) l.H_))).bind fun m=>(if m.2.1=true then (zd m.2.2.1.K_ 3).bind fun n=>(C (kg n,m.2.2.2)).bind fun o=>(zd o m.1).bind fun p=>(zd o m.1).bind fun r=>some (o.set m.1 (qi.mk r.O_ r.a_ r.X_ r.Y_ r.A_ r.B_ r.W_ o.len r.H_)) else some m.2.2.2).bind fun n=>some n
def q29 (h:yz):yz:=q3r q2y q2f h
theorem qeq (h:yz):@Eq yz (zhD h) (q29 h):=by delta q29;rw [<-qj1,<-qb4];kernel_rfl
def q4d (A:ziw) (B:zir->G3 (Sl qi)) (C:zdA) (D:zob) (E:zij) (G:zfG) (x:q7×Sl qi):G3 (Sl qi):=(if decide (x.1.k_=10)=true then (A (kg x.1)).bind fun a=>(B (kg x.1,kg a,x.2)).bind fun b=>some (inl b) else (if decide (x.1.k_=15)=true then some (x.1.k_,decide (x.1.k_=15),x.2,kg x.1,0,x.1.a_,lit [],x.1.T_,lit [],0,lit [],0,0,false) else some (x.1.k_,decide (x.1.k_=16),x.2,kg x.1,0,x.1.a_,lit [],x.1.T_,lit [],0,lit [],0,0,false)).bind fun (c:zwj)=>if c.2.1=true then (C (kg c.2.2.2.1,c.2.2.1)).bind fun d=>some (inl d) else (if decide (c.1=11)=true then (D (kg c.2.2.2.1,0)).bind fun e=>(D (kg c.2.2.2.1,1)).bind fun i=>some (c.2.2.1,(6,c.2.2.2.2.2.1,c.2.2.2.2.2.2.1,c.2.2.2.2.2.2.2.1,e.N_,e.n_,i.N_,i.n_,c.2.2.2.2.2.2.2.2.2.2.2.2),Sl.mk [] false) else (if decide (c.1=12)=true then some (c.2.2.1,(7,c.2.2.2.2.2),Sl.mk [] false) else (if decide (c.1=13)=true then some (c.2.2.1,(8,c.2.2.2.2.2.1,c.2.2.2.2.2.2.1,c.2.2.2.2.2.2.2.1,lit [],c.2.2.2.1.n_,c.2.2.2.2.2.2.2.2.2.2),Sl.mk [] false) else (if decide (c.1=14)=true then some (c.2.2.1,(9,c.2.2.2.2.2.1,c.2.2.2.2.2.2.1,c.2.2.2.2.2.2.2.1,lit [],c.2.2.2.1.n_,c.2.2.2.2.2.2.2.2.2.2),Sl.mk [] false) else (if decide (c.1=20)=true then (A (kg c.2.2.2.1)).bind fun j=>(A (kg c.2.2.2.1)).bind fun l=>(E (kg l)).bind fun m=>some (c.2.2.1,(12,c.2.2.2.2.2.1,c.2.2.2.2.2.2.1,j.T_,c.2.2.2.2.2.2.2.2),m) else (if decide (c.1=19)=true then (E (kg c.2.2.2.1)).bind fun n=>some (c.2.2.1,(13,c.2.2.2.2.2),n) else (if decide (c.1=17)=true then (D (kg c.2.2.2.1,0)).bind fun o=>some (c.2.2.1,14,c.2.2.2.2.2.1,c.2.2.2.2.2.2.1,lit [],o.N_,o.n_,c.2.2.2.2.2.2.2.2.2.2.1,c.2.2.2.2.2.2.2.2.2.2.2.1,c.2.2.2.2.2.2.2.2.2.2.2.2.1,decide (0 < c.2.2.2.1.K_.len)) else some (c.2.2.1,15,c.2.2.2.2.2.1,c.2.2.2.2.2.2.1,lit [],c.2.2.2.2.2.2.2.2)).bind fun (o:zwo)=>some (o.1,o.2,Sl.mk [] false)).bind fun (n:WZ)=>some n).bind fun (j:WZ)=>some j).bind fun (j:WZ)=>some j).bind fun (j:WZ)=>some j).bind fun (j:WZ)=>some j).bind fun (e:WZ)=>some (inr e)).bind fun (a:Sl qi⊕Sl qi×(Int×Int×G0×G0×G0×Int×G0×Int×Int×Bool)×Sl qt)=>elim (fun b=>some b) (fun b=>(G (qi.mk b.2.1.1 b.2.1.2.1 b.2.1.2.2.1 b.2.1.2.2.2.1 (qt.mk b.2.1.2.2.2.2.1 b.2.1.2.2.2.2.2.1) (qt.mk b.2.1.2.2.2.2.2.2.1 b.2.1.2.2.2.2.2.2.2.1) b.2.2 b.2.1.2.2.2.2.2.2.2.2.1 b.2.1.2.2.2.2.2.2.2.2.2,b.1)).bind fun c=>some c.2) a
def q1u (h:yz):yz:=q4d q8r q57 (q29 h) q2y q9r q2f
theorem qfq (h:yz):@Eq yz (zhE h) (q1u h):=by delta q1u;rw [<-qlg,<-qky,<-qeq h,<-qj1,<-qkv,<-qb4];kernel_rfl
def q6d (A:zdA):zn4->G3 (Step zn4 (Sl qi)):=fun a=>if decide (a.2.2.1 < a.2.1)=true then (zd a.1 a.2.2.1).bind fun b=>(A (kg b,a.2.2.2)).bind fun c=>some (Step.next (a.1,a.2.1,G4 (a.2.2.1+1),c)) else some (Step.done a.2.2.2)
def q6e (A:zdA) (x:q7×Sl qi):G3 (Sl qi):=(lpO (q6d A) (x.1.K_,x.1.K_.len,0,x.2)).bind fun a=>some a
def q4z (h:yz):yz:=q6e (q1u h)
theorem qjo (h:yz):@Eq yz (zhF h) (q4z h):=by delta q4z;rw [<-qfq h];kernel_rfl
def q2c:Nat->(q7×Sl qi)->G3 (Sl qi)
  |0=>fun _=>none
  |k+1=>q4z (q2c k)
theorem q90:∀ k,@Eq yz (zff k) (q2c k)
  |0=>rfl
  |k+1=>(qjo (zff k)).trans (congrArg q4z (q90 k))
def q77:yz:=q2c 100000
theorem qk7:@Eq yz zvl q77:=q90 100000
def qb9 (A:zdA) (B:zfG):zfB->G3 (Step zfB zsX):=fun a=>if decide (a.2.2.1 < a.2.1)=true then (zd a.1 a.2.2.1).bind fun b=>(if decide (b.k_=7)=true then (zp 16 a.2.2.2.2.2.1 [b.T_]).bind fun c=>some (a.1,a.2.1,a.2.2.1,a.2.2.2.1,a.2.2.2.2.1,c,a.2.2.2.2.2.2) else (if decide (b.k_=9)=true then (A (kg b,a.2.2.2.2.2.2)).bind fun d=>(B (qi.mk 14 b.a_ (lit []) (lit []) (qt.mk (lit []) 0) (qt.mk (lit []) 0) (Sl.mk [] false) 0 false,d)).bind fun e=>some (a.1,a.2.1,a.2.2.1,a.2.2.2.1,a.2.2.2.2.1,a.2.2.2.2.2.1,e.2) else some a).bind fun d=>some d).bind fun c=>some (Step.next (c.1,c.2.1,G4 (c.2.2.1+1),c.2.2.2)) else some (Step.done a.2.2.2)
def qd1 (A:zdA) (B:zfG) (x:q7):G3 q1h:=if decide (x.k_≠6)=true then some (q1h.mk (lit []) (Sl.mk [] false) (Sl.mk [] false)) else (lpO (qb9 A B) (x.K_,x.K_.len,0,lit [],x.T_,Sl.mk [] false,Sl.mk [] false)).bind fun a=>some (q1h.mk a.2.1 a.2.2.1 a.2.2.2)
def q5u:zfN:=qd1 q77 q2f
theorem qk8:@Eq zfN zq4.F q5u:=by delta q5u;rw [<-qk7,<-qb4];kernel_rfl
def q8k (A:Wr) (x:znD):G3 zK:=(A (x.2.1,x.2.2.1,(x.2.2.2.1.1,x.2.2.2.1.2.1,x.1.a_,x.2.2.2.1.2.2.2),x.2.2.2.2)).bind fun a=>elim (fun b=>some (inl b)) (fun b=>some (inr b)) a
def q2x:znD->G3 zK:=q8k q14
theorem qgp:@Eq ((znD)->G3 zK) zq5.F q2x:=by delta q2x;rw [<-q2l];kernel_rfl
def qb0 (x:zh7):G3 yA:=some (x.1.1,x.1.2,x.2.2.2)
def q4y:zh7->G3 yA:=qb0
theorem qjq:@Eq ((zh7)->G3 yA) zq8 q4y:=by kernel_rfl
def q9w (x:yA):G3 yA:=some x
def q4a:yA->G3 yA:=q9w
theorem qi6:@Eq ((yA)->G3 yA) zrb q4a:=by kernel_rfl
def q5k (A:zki) (B:zrT) (C:znA) (D:zgC) (E:zfN) (G:zrR) (H:znN):VO->G3 (Step VO zhL):=fun a=>if decide (a.2.2.1 < a.2.1)=true then ((zd a.1 a.2.2.1).bind fun b=>(A (kg b,decide (b.k_=6),50,a.2.2.2.2.2.2)).bind fun c=>elim (fun d=>some (inl (d.1,kg a.2.2.2.1,a.2.2.2.2.1,a.2.2.2.2.2.1))) (fun d=>(yM ((B (kg b,d)).bind fun e=>elim (fun i=>some (inl (i.1,kg a.2.2.2.1,a.2.2.2.2.1,a.2.2.2.2.2.1))) (fun i=>(zp 48 i.2.2.1 [qb.mk i.1.1 i.1.2 i.2.2.2]).bind fun j=>some (inr (a.1,a.2.1,a.2.2.1,kg a.2.2.2.1,a.2.2.2.2.1,a.2.2.2.2.2.1,i.2.1,j))) e) ((B (kg b,d)).bind fun e=>elim (fun i=>some (inl (i.1,kg a.2.2.2.1,a.2.2.2.2.1,a.2.2.2.2.2.1))) (fun i=>yM ((zp 48 i.2.2.1 [qb.mk i.1.1 i.1.2 i.2.2.2]).bind fun j=>some (inr (a.1,a.2.1,a.2.2.1,kg a.2.2.2.1,a.2.2.2.2.1,a.2.2.2.2.2.1,i.2.1,j))) ((zp 48 i.2.2.1 [qb.mk i.1.1 i.1.2 i.2.2.2]).bind fun j=>some (inr (a.1,a.2.1,a.2.2.1,kg a.2.2.2.1,a.2.2.2.2.1,a.2.2.2.2.2.1,i.2.1,j)))) e)).bind fun e=>elim (fun i=>some (inl (i.1,kg i.2.1,i.2.2))) (fun i=>some (inr (i.1,i.2.1,i.2.2.1,kg i.2.2.2.1,i.2.2.2.2))) e) c).bind fun b=>elim (fun c=>some (Step.done (inl (c.1,kg c.2.1,c.2.2)))) (fun c=>some (Step.next (c.1,c.2.1,G4 (c.2.2.1+1),kg c.2.2.2.1,c.2.2.2.2))) b else some (Step.done (inr (kg a.2.2.2.1,a.2.2.2.2)))
def q5l (A:zki) (B:zrT) (C:znA) (D:zgC) (E:zfN) (G:zrR) (H:znN):VO->G3 (Step VO zhL):=fun a=>if decide (a.2.2.1 < a.2.1)=true then ((zd a.1 a.2.2.1).bind fun b=>(zd a.2.2.2.2.2.2.2 a.2.2.1).bind fun c=>(zd b.K_ (G4 (b.K_.len - 1))).bind fun d=>(D (d.K_,(a.2.2.2.2.2.2.1.1,a.2.2.2.2.2.2.1.2.1,a.2.2.2.2.2.2.1.2.2,a.2.2.1),a.2.2.2.2.2.2.2)).bind fun e=>elim (fun i=>some (inl (i.1,kg a.2.2.2.1,a.2.2.2.2.1,a.2.2.2.2.2.1))) (fun i=>((zd i.2 i.1.2.2.2).bind fun j=>(zd i.2 i.1.2.2.2).bind fun l=>if decide (l.V_.len<=64)=true then (E (kg b)).bind fun m=>(G (kg b,decide (m.L_.len<=512),22,i)).bind fun n=>elim (fun o=>some (inl (o.1,kg a.2.2.2.1,a.2.2.2.2.1,a.2.2.2.2.2.1))) (fun o=>some (inr (a.1,a.2.1,a.2.2.1,kg a.2.2.2.1,a.2.2.2.2.1,a.2.2.2.2.2.1,o))) n else (G (kg b,false,22,i)).bind fun o=>elim (fun p=>some (inl (p.1,kg a.2.2.2.1,a.2.2.2.2.1,a.2.2.2.2.2.1))) (fun p=>some (inr (a.1,a.2.1,a.2.2.1,kg a.2.2.2.1,a.2.2.2.2.1,a.2.2.2.2.2.1,p))) o).bind fun j=>elim (fun l=>some (inl (l.1,kg l.2.1,l.2.2))) (fun l=>some (inr (l.1,l.2.1,l.2.2.1,kg l.2.2.2.1,l.2.2.2.2))) j) e).bind fun b=>elim (fun c=>some (Step.done (inl (c.1,kg c.2.1,c.2.2)))) (fun c=>some (Step.next (c.1,c.2.1,G4 (c.2.2.1+1),kg c.2.2.2.1,c.2.2.2.2.1,c.2.2.2.2.2.1,(c.2.2.2.2.2.2.1.1,c.2.2.2.2.2.2.1.2.1,c.2.2.2.2.2.2.1.2.2.1),c.2.2.2.2.2.2.2))) b else some (Step.done (inr (kg a.2.2.2.1,a.2.2.2.2)))
def qby (A:zki) (B:zrT) (C:znA) (D:zgC) (E:zfN) (G:zrR) (H:znN) (x:zod):G3 yA:=(lpO (q5k A B C D E G H) (x.1.K_,x.1.K_.len,0,kg x.1,0,0,(x.2.1,x.2.2,0),Sl.mk [] false)).bind fun a=>elim (fun b=>(C (b.1,b.2.2.1,b.2.2.2,Sl.mk [] false)).bind fun c=>some (c.1,c.2.1,Sl.mk [] false)) (fun b=>(lpO (q5l A B C D E G H) (b.1.K_,b.1.K_.len,0,kg b.1,b.2)).bind fun c=>elim (fun d=>(C (d.1,d.2.2.1,d.2.2.2,Sl.mk [] false)).bind fun e=>some (e.1,e.2.1,Sl.mk [] false)) (fun d=>(H (0,0,d.2.2.2.2)).bind fun e=>some e) c) a
def q2g:zod->G3 yA:=qby q1v q2u q4y q33 q5u q2x q4a
theorem qd2:@Eq ((zod)->G3 yA) zvs q2g:=by delta q2g;rw [<-qcj,<-qiy,<-qjq,<-qi5,<-qk8,<-qgp,<-qi6];kernel_rfl
def q9x (A:zdw) (B:VY) (C:zhQ) (D:zfI) (x:Unit):Gj:=(A (lit [116,121,112,101,32,118,101,99,32,111,119,110,32,123,32,110,32,125,59,32,102,110,32,118,101,99,95,110,101,119,40,110,58,32,105,110,116,41,32,45,62,32,111,119,110,32,118,101,99,32,123,32,125,32,102,110,32,118,101,99,95,103,101,116,40,118,58,32,38,118,101,99,44,32,105,58,32,105,110,116,41,32,45,62,32,105,110,116,32,123,32,125])).bind fun a=>(B (lit [102,110,32,109,97,105,110,40,41,32,123,32,118,32,61,32,118,101,99,95,110,101,119,40,51,41,59,32,114,32,61,32,38,118,59,32,120,32,61,32,118,101,99,95,103,101,116,40,114,44,32,48,41,59,32,125])).bind fun b=>(B (lit [102,110,32,109,97,105,110,40,41,32,123,32,112,32,61,32,110,101,119,32,49,59,32,125])).bind fun c=>(if (!a.2)=true then some (true,a.1,kg b.1,kg c.1) else if decide (b.2.2≠0)=true then some (true,a.1,kg b.1,kg c.1) else some (decide (c.2.2≠0),a.1,kg b.1,kg c.1)).bind fun d=>if d.1=true then some false else (C (kg d.2.2.1,d.2.1.s_,d.2.1.Z_)).bind fun e=>(C (kg d.2.2.2,d.2.1.s_,d.2.1.Z_)).bind fun i=>(if decide (e.2.1=0)=true then if decide (Sl.len e.2.2=1)=true then (zd e.2.2 0).bind fun j=>(zd e.2.2 0).bind fun l=>(zd e.2.2 0).bind fun m=>if decide (m.V_.len=3)=true then (zd e.2.2 0).bind fun n=>(zd e.2.2 0).bind fun o=>(zd e.2.2 0).bind fun p=>(zd p.V_ 1).bind fun r=>(zd e.2.2 0).bind fun s=>(zd s.V_ 1).bind fun t=>if (decide (t.N_=lit [114]) && (decide (t.M_=3) && (decide (t.t_=0) && true)))=true then (zd e.2.2 0).bind fun u=>(zd e.2.2 0).bind fun v=>(zd e.2.2 0).bind fun w=>(D (qb.mk v.N_ v.P_ w.V_,lit [120])).bind fun z=>if decide (z=2)=true then (zd e.2.2 0).bind fun E=>(zd e.2.2 0).bind fun G=>(zd e.2.2 0).bind fun H=>(D (qb.mk G.N_ G.P_ H.V_,lit [121])).bind fun I=>if decide (I = -1)=true then if decide (i.2.1=50)=true then some (decide (i.1=12)) else some false else some false else some false else some false else some false else some false else some false).bind fun j=>some j
def q1e:zfL:=q9x q1c q1o q2g q2d
theorem qdq:@Eq zfL zrf.F q1e:=by delta q1e;rw [<-q97,<-q8p,<-qd2,<-q5y];kernel_rfl
def q34 (A:zdw) (B:VY) (C:zfL) (D:zhQ):zr5->G3 (Step zr5 zsM):=fun a=>if decide (a.2.2.2.2.1 < a.2.2.2.1)=true then (zd a.2.2.2.2.2.2.2.1 a.2.2.1).bind fun b=>(zd b.V_ a.2.2.2.2.1).bind fun c=>(zd a.2.2.2.2.2.2.2.1 a.2.2.1).bind fun d=>(zd d.V_ a.2.2.2.2.1).bind fun e=>(if decide (1 < Zz e.N_ (Zp e.N_ (G4 (Zz e.N_ a.2.2.2.2.2.2.2.2.2.2.xs+1)) a.2.2.2.2.2.2.2.2.2.2.xs))=true then some (a.1,a.2.1,a.2.2.1,a.2.2.2.1,a.2.2.2.2.1,true,a.2.2.2.2.2.1,kg a.2.2.2.2.2.2.1,a.2.2.2.2.2.2.2.1,a.2.2.2.2.2.2.2.2.1,a.2.2.2.2.2.2.2.2.2.1,Sl.mk (Zp e.N_ (G4 (Zz e.N_ a.2.2.2.2.2.2.2.2.2.2.xs+1)) a.2.2.2.2.2.2.2.2.2.2.xs) true) else if decide (e.M_ < 1)=true then some (a.1,a.2.1,a.2.2.1,a.2.2.2.1,a.2.2.2.2.1,true,a.2.2.2.2.2.1,kg a.2.2.2.2.2.2.1,a.2.2.2.2.2.2.2.1,a.2.2.2.2.2.2.2.2.1,a.2.2.2.2.2.2.2.2.2.1,Sl.mk (Zp e.N_ (G4 (Zz e.N_ a.2.2.2.2.2.2.2.2.2.2.xs+1)) a.2.2.2.2.2.2.2.2.2.2.xs) true) else if decide (4 < e.M_)=true then some (a.1,a.2.1,a.2.2.1,a.2.2.2.1,a.2.2.2.2.1,true,a.2.2.2.2.2.1,kg a.2.2.2.2.2.2.1,a.2.2.2.2.2.2.2.1,a.2.2.2.2.2.2.2.2.1,a.2.2.2.2.2.2.2.2.2.1,Sl.mk (Zp e.N_ (G4 (Zz e.N_ a.2.2.2.2.2.2.2.2.2.2.xs+1)) a.2.2.2.2.2.2.2.2.2.2.xs) true) else if decide (e.M_=1)=true then if decide (e.t_≠0)=true then some (a.1,a.2.1,a.2.2.1,a.2.2.2.1,a.2.2.2.2.1,true,a.2.2.2.2.2.1,kg a.2.2.2.2.2.2.1,a.2.2.2.2.2.2.2.1,a.2.2.2.2.2.2.2.2.1,a.2.2.2.2.2.2.2.2.2.1,Sl.mk (Zp e.N_ (G4 (Zz e.N_ a.2.2.2.2.2.2.2.2.2.2.xs+1)) a.2.2.2.2.2.2.2.2.2.2.xs) true) else if decide (e.M_≠1)=true then if decide (e.t_ < 0)=true then some (a.1,a.2.1,a.2.2.1,a.2.2.2.1,a.2.2.2.2.1,true,a.2.2.2.2.2.1,kg a.2.2.2.2.2.2.1,a.2.2.2.2.2.2.2.1,a.2.2.2.2.2.2.2.2.1,a.2.2.2.2.2.2.2.2.2.1,Sl.mk (Zp e.N_ (G4 (Zz e.N_ a.2.2.2.2.2.2.2.2.2.2.xs+1)) a.2.2.2.2.2.2.2.2.2.2.xs) true) else if decide (a.2.2.2.2.2.1.Z_.len<=e.t_)=true then some (a.1,a.2.1,a.2.2.1,a.2.2.2.1,a.2.2.2.2.1,true,a.2.2.2.2.2.1,kg a.2.2.2.2.2.2.1,a.2.2.2.2.2.2.2.1,a.2.2.2.2.2.2.2.2.1,a.2.2.2.2.2.2.2.2.2.1,Sl.mk (Zp e.N_ (G4 (Zz e.N_ a.2.2.2.2.2.2.2.2.2.2.xs+1)) a.2.2.2.2.2.2.2.2.2.2.xs) true) else if decide (a.2.2.2.2.1 < a.2.2.2.2.2.2.2.2.1.2.1)=true then some (a.1,a.2.1,a.2.2.1,a.2.2.2.1,a.2.2.2.2.1,decide (2 < e.M_),a.2.2.2.2.2.1,kg a.2.2.2.2.2.2.1,a.2.2.2.2.2.2.2.1,a.2.2.2.2.2.2.2.2.1,a.2.2.2.2.2.2.2.2.2.1,Sl.mk (Zp e.N_ (G4 (Zz e.N_ a.2.2.2.2.2.2.2.2.2.2.xs+1)) a.2.2.2.2.2.2.2.2.2.2.xs) true) else some (a.1,a.2.1,a.2.2.1,a.2.2.2.1,a.2.2.2.2.1,false,a.2.2.2.2.2.1,kg a.2.2.2.2.2.2.1,a.2.2.2.2.2.2.2.1,a.2.2.2.2.2.2.2.2.1,a.2.2.2.2.2.2.2.2.2.1,Sl.mk (Zp e.N_ (G4 (Zz e.N_ a.2.2.2.2.2.2.2.2.2.2.xs+1)) a.2.2.2.2.2.2.2.2.2.2.xs) true) else if decide (a.2.2.2.2.1 < a.2.2.2.2.2.2.2.2.1.2.1)=true then some (a.1,a.2.1,a.2.2.1,a.2.2.2.1,a.2.2.2.2.1,decide (2 < e.M_),a.2.2.2.2.2.1,kg a.2.2.2.2.2.2.1,a.2.2.2.2.2.2.2.1,a.2.2.2.2.2.2.2.2.1,a.2.2.2.2.2.2.2.2.2.1,Sl.mk (Zp e.N_ (G4 (Zz e.N_ a.2.2.2.2.2.2.2.2.2.2.xs+1)) a.2.2.2.2.2.2.2.2.2.2.xs) true) else some (a.1,a.2.1,a.2.2.1,a.2.2.2.1,a.2.2.2.2.1,false,a.2.2.2.2.2.1,kg a.2.2.2.2.2.2.1,a.2.2.2.2.2.2.2.1,a.2.2.2.2.2.2.2.2.1,a.2.2.2.2.2.2.2.2.2.1,Sl.mk (Zp e.N_ (G4 (Zz e.N_ a.2.2.2.2.2.2.2.2.2.2.xs+1)) a.2.2.2.2.2.2.2.2.2.2.xs) true) else if decide (e.M_≠1)=true then if decide (e.t_ < 0)=true then some (a.1,a.2.1,a.2.2.1,a.2.2.2.1,a.2.2.2.2.1,true,a.2.2.2.2.2.1,kg a.2.2.2.2.2.2.1,a.2.2.2.2.2.2.2.1,a.2.2.2.2.2.2.2.2.1,a.2.2.2.2.2.2.2.2.2.1,Sl.mk (Zp e.N_ (G4 (Zz e.N_ a.2.2.2.2.2.2.2.2.2.2.xs+1)) a.2.2.2.2.2.2.2.2.2.2.xs) true) else if decide (a.2.2.2.2.2.1.Z_.len<=e.t_)=true then some (a.1,a.2.1,a.2.2.1,a.2.2.2.1,a.2.2.2.2.1,true,a.2.2.2.2.2.1,kg a.2.2.2.2.2.2.1,a.2.2.2.2.2.2.2.1,a.2.2.2.2.2.2.2.2.1,a.2.2.2.2.2.2.2.2.2.1,Sl.mk (Zp e.N_ (G4 (Zz e.N_ a.2.2.2.2.2.2.2.2.2.2.xs+1)) a.2.2.2.2.2.2.2.2.2.2.xs) true) else if decide (a.2.2.2.2.1 < a.2.2.2.2.2.2.2.2.1.2.1)=true then some (a.1,a.2.1,a.2.2.1,a.2.2.2.1,a.2.2.2.2.1,decide (2 < e.M_),a.2.2.2.2.2.1,kg a.2.2.2.2.2.2.1,a.2.2.2.2.2.2.2.1,a.2.2.2.2.2.2.2.2.1,a.2.2.2.2.2.2.2.2.2.1,Sl.mk (Zp e.N_ (G4 (Zz e.N_ a.2.2.2.2.2.2.2.2.2.2.xs+1)) a.2.2.2.2.2.2.2.2.2.2.xs) true) else some (a.1,a.2.1,a.2.2.1,a.2.2.2.1,a.2.2.2.2.1,false,a.2.2.2.2.2.1,kg a.2.2.2.2.2.2.1,a.2.2.2.2.2.2.2.1,a.2.2.2.2.2.2.2.2.1,a.2.2.2.2.2.2.2.2.2.1,Sl.mk (Zp e.N_ (G4 (Zz e.N_ a.2.2.2.2.2.2.2.2.2.2.xs+1)) a.2.2.2.2.2.2.2.2.2.2.xs) true) else if decide (a.2.2.2.2.1 < a.2.2.2.2.2.2.2.2.1.2.1)=true then some (a.1,a.2.1,a.2.2.1,a.2.2.2.1,a.2.2.2.2.1,decide (2 < e.M_),a.2.2.2.2.2.1,kg a.2.2.2.2.2.2.1,a.2.2.2.2.2.2.2.1,a.2.2.2.2.2.2.2.2.1,a.2.2.2.2.2.2.2.2.2.1,Sl.mk (Zp e.N_ (G4 (Zz e.N_ a.2.2.2.2.2.2.2.2.2.2.xs+1)) a.2.2.2.2.2.2.2.2.2.2.xs) true) else some (a.1,a.2.1,a.2.2.1,a.2.2.2.1,a.2.2.2.2.1,false,a.2.2.2.2.2.1,kg a.2.2.2.2.2.2.1,a.2.2.2.2.2.2.2.1,a.2.2.2.2.2.2.2.2.1,a.2.2.2.2.2.2.2.2.2.1,Sl.mk (Zp e.N_ (G4 (Zz e.N_ a.2.2.2.2.2.2.2.2.2.2.xs+1)) a.2.2.2.2.2.2.2.2.2.2.xs) true)).bind fun i=>if i.2.2.2.2.2.1=true then some (Step.done (inl false)) else some (Step.next (i.1,i.2.1,i.2.2.1,i.2.2.2.1,G4 (i.2.2.2.2.1+1),i.2.2.2.2.2.2.1,kg i.2.2.2.2.2.2.2.1,i.2.2.2.2.2.2.2.2)) else some (Step.done (inr (a.1,a.2.1,a.2.2.2.2.2.1,kg a.2.2.2.2.2.2.1,a.2.2.2.2.2.2.2.1,a.2.2.2.2.2.2.2.2.1)))
def q2m (A:zdw) (B:VY) (C:zfL) (D:zhQ):zib->G3 (Step zib (Bool⊕q7×Gs)):=fun a=>if decide (a.2.1 < a.1)=true then ((zd a.2.2.2.2 a.2.1).bind fun b=>(zd a.2.2.2.2 a.2.1).bind fun c=>(zd a.2.2.2.2 a.2.1).bind fun d=>(lpO (q34 A B C D) (a.1,a.2.1,a.2.1,d.V_.len,0,a.2.2.1,kg a.2.2.2.1,a.2.2.2.2,(c.N_,c.P_,a.2.1),lit [],Sl.mk [] true)).bind fun e=>elim (fun i=>some (inl i)) (fun i=>((zd i.2.2.2.2.1 i.2.2.2.2.2.2.2).bind fun j=>if decide (64 < j.V_.len)=true then some (i.1,i.2.1,true,i.2.2.1,kg i.2.2.2.1,i.2.2.2.2.1) else (zd i.2.2.2.2.1 i.2.2.2.2.2.2.2).bind fun l=>some (i.1,i.2.1,decide (l.V_.len < i.2.2.2.2.2.2.1),i.2.2.1,kg i.2.2.2.1,i.2.2.2.2.1)).bind fun j=>if j.2.2.1=true then some (inl false) else some (inr (j.1,j.2.1,j.2.2.2.1,kg j.2.2.2.2.1,j.2.2.2.2.2))) e).bind fun b=>elim (fun c=>some (Step.done (inl c))) (fun c=>some (Step.next (c.1,G4 (c.2.1+1),c.2.2.1,kg c.2.2.2.1,c.2.2.2.2))) b else some (Step.done (inr (kg a.2.2.2.1,a.2.2.2.2)))
def q78 (A:zdw) (B:VY) (C:zfL) (D:zhQ) (x:WE):Gj:=(A x.1).bind fun a=>(B x.2).bind fun b=>((C ()).bind fun c=>if (!c)=true then some (true,a.1,kg b.1) else if (!a.2)=true then some (true,a.1,kg b.1) else some (decide (b.2.2≠0),a.1,kg b.1)).bind fun c=>if c.1=true then (C ()).bind fun d=>some d else (D (kg c.2.2,c.2.1.s_,c.2.1.Z_)).bind fun e=>if decide (e.2.1≠0)=true then some (decide (Sl.len e.2.2=0)) else (lpO (q2m A B C D) (Sl.len e.2.2,0,c.2.1,kg c.2.2,e.2.2)).bind fun i=>elim (fun j=>some j) (fun j=>some (decide (Sl.len j.2=j.1.K_.len))) i
def q86:WE->Gj:=q78 q1c q1o q1e q2g
theorem qg6:@Eq ((WE)->G3 Bool) zgn.F q86:=by delta q86;rw [<-q97,<-q8p,<-qdq,<-qd2];kernel_rfl
def qfa (x:q6):G3 ql:=some (ql.mk x.T_ x.n_)
def q24:vm:=qfa
def q6m (A:vm):zoc->G3 (Step zoc (Sl ql)):=fun a=>if decide (a.2.1 < Sl.len a.1)=true then (zd a.1 a.2.1).bind fun b=>(A (kr b)).bind fun c=>(zp 24 a.2.2 [c]).bind fun d=>some (Step.next (a.1,G4 (a.2.1+1),d)) else some (Step.done a.2.2)
def qco (A:vm) (x:Gc):G3 (Sl ql):=(lpO (q6m A) (x,0,Sl.mk [] false)).bind fun a=>some a
def q7o:Gc->G3 (Sl ql):=qco q24
def qav (A:vm) (B:Gc->G3 (Sl ql)) (x:q6):G3 zno:=(zd x.K_ 0).bind fun a=>(if decide (a.k_=26)=true then some (a.k_,decide (a.k_=26),(0,0,lit [],lit [],lit [],0,lit [],0,0,false),kr a,0,x.a_,x.T_,lit [],a.T_,a.n_,lit [],0,0,false) else some (a.k_,decide (a.k_=27),(0,0,lit [],lit [],lit [],0,lit [],0,0,false),kr a,0,x.a_,x.T_,lit [],a.T_,a.n_,lit [],0,0,false)).bind fun (b:Int×Bool×(Int×Int×G0×G0×G0×Int×G0×Int×Int×Bool)×q6×Int×Int×G0×G0×G0×Int×G0×Int×Int×Bool)=>(if b.2.1=true then some (b.2.2.1,(b.2.2.2.2.1,b.2.2.2.2.2.1,b.2.2.2.2.2.2.1,b.2.2.2.2.2.2.2.1,b.2.2.2.1.T_,0,b.2.2.2.2.2.2.2.2.2.2),Sl.mk [] false) else (if decide (b.1=21)=true then (zd b.2.2.2.1.K_ 0).bind fun c=>(A (kr c)).bind fun d=>(zd b.2.2.2.1.K_ 1).bind fun e=>(A (kr e)).bind fun i=>some (b.2.2.1,(1,b.2.2.2.2.2.1,b.2.2.2.2.2.2.1,b.2.2.2.2.2.2.2.1,d.N_,d.n_,i.N_,i.n_,b.2.2.2.2.2.2.2.2.2.2.2.2),Sl.mk [] false) else (if decide (b.1=22)=true then (zd b.2.2.2.1.K_ 0).bind fun j=>(A (kr j)).bind fun l=>(zd b.2.2.2.1.K_ 1).bind fun m=>(A (kr m)).bind fun n=>some (b.2.2.1,(2,b.2.2.2.2.2.1,b.2.2.2.2.2.2.1,b.2.2.2.2.2.2.2.1,l.N_,l.n_,n.N_,n.n_,b.2.2.2.2.2.2.2.2.2.2.2.2),Sl.mk [] false) else (if decide (b.1=23)=true then some (b.2.2.1,(3,b.2.2.2.2.2.1,b.2.2.2.2.2.2.1,b.2.2.2.2.2.2.2.1,lit [],b.2.2.2.1.n_,b.2.2.2.2.2.2.2.2.2.2),Sl.mk [] false) else (if decide (b.1=24)=true then some (b.2.2.1,(4,b.2.2.2.2.2.1,b.2.2.2.2.2.2.1,b.2.2.2.2.2.2.2.1,b.2.2.2.1.T_,0,b.2.2.2.2.2.2.2.2.2.2),Sl.mk [] false) else (if decide (b.1=25)=true then (zd b.2.2.2.1.K_ 0).bind fun o=>(A (kr o)).bind fun p=>some (b.2.2.1,(5,b.2.2.2.2.2.1,b.2.2.2.2.2.2.1,b.2.2.2.1.T_,p.N_,p.n_,b.2.2.2.2.2.2.2.2.2.2),Sl.mk [] false) else (if decide (b.1=28)=true then (B b.2.2.2.1.K_).bind fun r=>some (b.2.2.1,(12,b.2.2.2.2.2.1,b.2.2.2.2.2.2.1,b.2.2.2.1.T_,lit [],0,b.2.2.2.2.2.2.2.2.2.2),r) else some (b.2.2.1,b.2.2.2.2,Sl.mk [] false)).bind fun (r:tA1)=>some r).bind fun (o:tA1)=>some o).bind fun (o:tA1)=>some o).bind fun (o:tA1)=>some o).bind fun (j:tA1)=>some j).bind fun (c:tA1)=>some c).bind fun (c:tA1)=>some c.2
def q8z:zeB:=qav q24 q7o
def q9s (A:zeB) (B:vm) (C:Gc->G3 (Sl ql)) (x:q6):G3 zno:=if decide (x.k_=10)=true then (A (kr x)).bind fun a=>some a else (if decide (x.k_=11)=true then (zd x.K_ 0).bind fun b=>(B (kr b)).bind fun c=>(zd x.K_ 1).bind fun d=>(B (kr d)).bind fun e=>some ((0,0,lit [],lit [],lit [],0,lit [],0,0,false),(6,x.a_,lit [],x.T_,c.N_,c.n_,e.N_,e.n_,0,false),Sl.mk [] false) else (if decide (x.k_=12)=true then some ((0,0,lit [],lit [],lit [],0,lit [],0,0,false),(7,x.a_,lit [],x.T_,lit [],0,lit [],0,0,false),Sl.mk [] false) else (if decide (x.k_=13)=true then some ((0,0,lit [],lit [],lit [],0,lit [],0,0,false),(8,x.a_,lit [],x.T_,lit [],x.n_,lit [],0,0,false),Sl.mk [] false) else (if decide (x.k_=14)=true then some ((0,0,lit [],lit [],lit [],0,lit [],0,0,false),(9,x.a_,lit [],x.T_,lit [],x.n_,lit [],0,0,false),Sl.mk [] false) else (if decide (x.k_=20)=true then (zd x.K_ 0).bind fun i=>(zd x.K_ 0).bind fun j=>(C j.K_).bind fun l=>some ((0,0,lit [],lit [],lit [],0,lit [],0,0,false),(12,x.a_,lit [],i.T_,lit [],0,lit [],0,0,false),l) else (if decide (x.k_=19)=true then (C x.K_).bind fun m=>some ((0,0,lit [],lit [],lit [],0,lit [],0,0,false),(13,x.a_,lit [],x.T_,lit [],0,lit [],0,0,false),m) else (if decide (x.k_=17)=true then (if decide (0 < x.K_.len)=true then (zd x.K_ 0).bind fun n=>(B (kr n)).bind fun o=>some ((0,0,lit [],lit [],lit [],0,lit [],0,0,false),14,x.a_,lit [],lit [],o.N_,o.n_,lit [],0,0,true) else some ((0,0,lit [],lit [],lit [],0,lit [],0,0,false),14,x.a_,lit [],lit [],lit [],0,lit [],0,0,false)).bind fun (n:tA5)=>some n else (if decide (x.k_=18)=true then some ((0,0,lit [],lit [],lit [],0,lit [],0,0,false),15,x.a_,lit [],lit [],lit [],0,lit [],0,0,false) else some ((0,0,lit [],lit [],lit [],0,lit [],0,0,false),0,x.a_,lit [],x.T_,lit [],0,lit [],0,0,false)).bind fun (o:tA5)=>some o).bind fun (n:tA5)=>some (n.1,n.2,Sl.mk [] false)).bind fun (m:tA1)=>some m).bind fun (i:tA1)=>some i).bind fun (i:tA1)=>some i).bind fun (i:tA1)=>some i).bind fun (i:tA1)=>some i).bind fun (b:tA1)=>some b.2
def q2b:zeB:=q9s q8z q24 q7o
def q52 (A:zeB) (B:vm) (C:zdC):znE->G3 (Step znE zs4):=fun a=>if decide (a.2.2.2.2.1 < Sl.len a.2.2.2.2.2.2.2.2)=true then (zd a.2.2.2.2.2.2.2.2 a.2.2.2.2.1).bind fun b=>(zd a.2.2.2.2.2.2.2.2 a.2.2.2.2.1).bind fun c=>(zp 136 a.2.2.2.2.2.2.1 [c]).bind fun d=>some (Step.next (a.1,a.2.1,a.2.2.1,a.2.2.2.1,G4 (a.2.2.2.2.1+1),kr a.2.2.2.2.2.1,d,kr a.2.2.2.2.2.2.2.1,a.2.2.2.2.2.2.2.2)) else some (Step.done (a.1,a.2.1,a.2.2.1,a.2.2.2.1,kr a.2.2.2.2.2.1,a.2.2.2.2.2.2.1,kr a.2.2.2.2.2.2.2.1))
def q53 (A:zeB) (B:vm) (C:zdC):znU->G3 (Step znU zdE):=fun a=>if decide (a.2.2.1 < Sl.len a.2.2.2.2.2)=true then (zd a.2.2.2.2.2 a.2.2.1).bind fun b=>(zd a.2.2.2.2.2 a.2.2.1).bind fun c=>(zp 136 a.2.2.2.2.1 [c]).bind fun d=>some (Step.next (a.1,a.2.1,G4 (a.2.2.1+1),kr a.2.2.2.1,d,a.2.2.2.2.2)) else some (Step.done (a.1,a.2.1,kr a.2.2.2.1,a.2.2.2.2.1))
def q3c (A:zeB) (B:vm) (C:zdC):zdE->G3 (Step zdE (Sl qm)):=fun a=>if decide (a.2.1 < a.2.2.1.K_.len)=true then ((zd a.2.2.1.K_ a.2.1).bind fun b=>(if decide (b.k_≠15)=true then some (a.1,a.2.1,G4 (a.1+Sl.len a.2.2.2),decide (b.k_≠16),kr a.2.2.1,a.2.2.2,kr b) else some (a.1,a.2.1,G4 (a.1+Sl.len a.2.2.2),false,kr a.2.2.1,a.2.2.2,kr b)).bind fun c=>if c.2.2.2.1=true then (A (kr c.2.2.2.2.2.2)).bind fun d=>(zp 136 c.2.2.2.2.2.1 [qm.mk d.1.1 d.1.2.1 d.1.2.2.1 d.1.2.2.2.1 (ql.mk d.1.2.2.2.2.1 d.1.2.2.2.2.2.1) (ql.mk d.1.2.2.2.2.2.2.1 d.1.2.2.2.2.2.2.2.1) d.2 d.1.2.2.2.2.2.2.2.2.1 d.1.2.2.2.2.2.2.2.2.2]).bind fun e=>some (c.1,c.2.1,kr c.2.2.2.2.1,e) else (zd c.2.2.2.2.2.2.K_ 0).bind fun i=>(B (kr i)).bind fun j=>(zd c.2.2.2.2.2.2.K_ 1).bind fun l=>(B (kr l)).bind fun m=>(zd c.2.2.2.2.2.2.K_ 2).bind fun n=>(C (kr n,G4 (c.2.2.1+1))).bind fun o=>(zp 136 c.2.2.2.2.2.1 [qm.mk 10 c.2.2.2.2.2.2.a_ c.2.2.2.2.2.2.T_ (lit []) j m (Sl.mk [] false) (G4 (G4 (G4 (c.2.2.1+1)+o.len)+1)) false]).bind fun p=>(lpO (q52 A B C) (c.1,c.2.1,c.2.2.1,G4 (G4 (c.2.2.1+1)+o.len),0,kr c.2.2.2.2.1,p,kr c.2.2.2.2.2.2,o)).bind fun r=>if decide (r.2.2.2.2.2.2.k_=16)=true then (zp 136 r.2.2.2.2.2.1 [qm.mk 11 r.2.2.2.2.2.2.a_ (lit []) (lit []) (ql.mk (lit []) 0) (ql.mk (lit []) 0) (Sl.mk [] false) r.2.2.1 false]).bind fun s=>some (r.1,r.2.1,kr r.2.2.2.2.1,s) else (zd r.2.2.2.2.2.2.K_ 3).bind fun t=>(C (kr t,G4 (r.2.2.2.1+1))).bind fun u=>(zp 136 r.2.2.2.2.2.1 [qm.mk 11 r.2.2.2.2.2.2.a_ (lit []) (lit []) (ql.mk (lit []) 0) (ql.mk (lit []) 0) (Sl.mk [] false) (G4 (G4 (r.2.2.2.1+1)+u.len)) false]).bind fun v=>(lpO (q53 A B C) (r.1,r.2.1,0,kr r.2.2.2.2.1,v,u)).bind fun w=>some (w.1,w.2.1,kr w.2.2.1,w.2.2.2)).bind fun b=>some (Step.next (b.1,G4 (b.2.1+1),kr b.2.2.1,b.2.2.2)) else some (Step.done a.2.2.2)
def q6y (A:zeB) (B:vm) (C:zdC) (x:q6×Int):G3 (Sl qm):=(lpO (q3c A B C) (x.2,0,kr x.1,Sl.mk [] false)).bind fun a=>some a
def q6z (h:zn1):zn1:=q6y q2b q24 h
def q2i:Nat->(q6×Int)->G3 (Sl qm)
  |0=>fun _=>none
  |k+1=>q6z (q2i k)
def q5h:zn1:=q2i 100000
def q54 (A:zdC):znF->G3 (Step znF zsQ):=fun a=>if decide (a.2.1 < G4 (a.1 - 1))=true then (zd a.2.2.1.K_ a.2.1).bind fun b=>(zp 16 a.2.2.2.2.2 [b.T_]).bind fun c=>some (Step.next (a.1,G4 (a.2.1+1),kr a.2.2.1,a.2.2.2.1,a.2.2.2.2.1,c)) else some (Step.done (a.1,kr a.2.2.1,a.2.2.2))
def q9t (A:zdC) (x:q6):G3 (G0×Gf×Sl qm):=(lpO (q54 A) (G4 (x.K_.len - 1),0,kr x,lit [],x.T_,Sl.mk [] false)).bind fun a=>(zd a.2.1.K_ a.1).bind fun b=>(A (kr b,0)).bind fun c=>(zd a.2.1.K_ a.1).bind fun d=>(zp 136 c [qm.mk 14 d.a_ (lit []) (lit []) (ql.mk (lit []) 0) (ql.mk (lit []) 0) (Sl.mk [] false) 0 false]).bind fun e=>some (a.2.2.2.1,a.2.2.2.2,e)
def q5g:q6->G3 (G0×Gf×Sl qm):=q9t q5h
end
end Go.Px
