/- Part S1. -/
import Derived.Test.YthnflpoohleiaaaGreatDoorCh
set_option linter.unusedVariables false
set_option linter.unusedSimpArgs false
namespace Go.Px
open Bool renaming true->g,false->N
open _root_.ByteArray renaming size->V
open Decidable renaming decide->q
open _root_.Option renaming some->f,none->Y,bind->Z
open Sl renaming mk->O
open Sum renaming inl->y,elim->F,inr->M
open Go.Proofs
set_option maxRecDepth 100000
set_option maxHeartbeats 4000000
noncomputable section
abbrev ke(a:q8):=q8.mk a.k_ a.T_ a.n_ a.a_ a.K_
abbrev kr(a:q6):=q6.mk a.k_ a.T_ a.n_ a.a_ a.K_
abbrev zA:=Int×Int
abbrev zr:=Ut×zA
abbrev GS:=Int×zr
abbrev X7:=q7×GS×GS
abbrev Ua:=Sl q8
abbrev xi:=q7×GS×GS×Ua
abbrev tA0:=zA×X7⊕xi⊕X7
abbrev GO:=Int×Int×Ut×Ut×Ut×Int×Ut×Int×Int×Bool
abbrev zpN:=GO×Sl qp
abbrev tA1:=GO×zpN
abbrev Uf:=Sl qa
abbrev GU:=zr×Sl qt×Sl qw
abbrev zpV:=Uf×q8×Ua×Ua×GU
abbrev za8:=zA×GU⊕GU
abbrev tA2:=zpV->Uv za8
abbrev Ub:=Sl qd
abbrev Up:=Sl qn×Sl qu
abbrev Uh:=Int×Int×Ub×zr×Up
abbrev Uc:=Sl q6
abbrev Uj:=Sl Int
abbrev GW:=Int×Int×Ub×zr×Uc×Uc×zr×Uj×Up
abbrev tA4:=Uh⊕GW
abbrev tA5:=GO×GO
abbrev GY:=Int×Int×zA
abbrev zmn:=GY×Sl q9×GS×GS
abbrev tA6:=GY×Sl q9×GS×Uc⊕zmn
abbrev GR:=Ut×zr
abbrev Ui:=Int×Int×GR
abbrev tA7:=Ui⊕Ub×Int×Int×q6×GR×GR×q6×qi×Sl qi
abbrev Uq:=Sl qe
abbrev GP:=(Sl qf×Uf×zA)×Uq
abbrev zpW:=Ua×(Int×zA)×GP
abbrev zQ:=zA×GP⊕GP
abbrev Ue:=Uv zQ
abbrev tA8:=zpW->Ue
abbrev zp0:=q8×Ua×GU
abbrev tA9:=zp0->Uv za8
abbrev zzl:=Ui⊕Ub×Int×Int×q6×GR×GR×q6×Sl qi
abbrev zjo:=Bool×Int×GP
abbrev zpZ:=q8×zjo
abbrev zuG:=zpZ->Ue
abbrev Un:=Int×Int×Ub×zr×Sl qn
abbrev GZ:=Int×Ub×zr×Uc×Uc×q6×zr×q6×Sl qn
abbrev zzm:=Un⊕GZ
abbrev zp4:=Ut×GP
abbrev vg:=zA×GP⊕qh×GP
abbrev zzn:=zp4->Uv vg
abbrev zp1:=Ut×qh×GP
abbrev zuH:=zp1->Ue
abbrev Um:=Sl qf×Uf×Int
abbrev GQ:=Um×Uq
abbrev zqf:=q8×GQ
abbrev zz:=Ut×Int
abbrev zml:=zA×GQ⊕zz×Um×Uq×Sl qh
abbrev zuI:=zqf->Uv zml
abbrev Uo:=Int×q8×GR×GR×Sl qh
abbrev zzo:=Ui⊕Uf×Uo
abbrev zzp:=Ui⊕Ub×Int×q6×GR×GR×Sl qi
abbrev ve:=zjo->Ue
abbrev GT:=Ut×Sl (Int×Bool)
abbrev GX:=Sl Bool
abbrev zpU:=Int×Int×ql×Uj×GT×Sl GX
abbrev zeA:=Int×ql×GT×Sl GX×Uj
abbrev zuJ:=zpU->Uv zeA
abbrev zp9:=q8×qh×GP
abbrev zfT:=zp9->Ue
abbrev zeH:=q8×GP
abbrev zpF:=zeH->Uv vg
abbrev zpM:=qh×GP⊕zA×GP
abbrev zuK:=zeH->Uv zpM
abbrev zvP:=Ua×GP
abbrev zcG:=zvP->Ue
abbrev Uk:=Ub×zr×Uc×Uc×q6×zr×Sl qn
abbrev zzr:=Un⊕Uk
abbrev zzs:=Uh⊕Ub×zr×zr×Up
abbrev zju:=Bool×Int×GQ
abbrev zp3:=q8×zju
abbrev x6:=zA×GQ⊕GQ
abbrev zmh:=zp3->Uv x6
abbrev zzt:=zA×GQ⊕Int×Um×Uq×q8×zz×zz×Sl qh
abbrev zuM:=zju->Uv x6
abbrev zf:=zA×q7
abbrev zuN:=zf⊕q7×GS×Ua⊕X7
abbrev xj:=GS×Int×Int×Ua
abbrev zaE:=zA×xj
abbrev zzw:=zaE->Uv xj
abbrev zuP:=Uf×Int×Ua×Int×Uo
abbrev zH:=GY×Sl q9
abbrev Yn:=Int×zH
abbrev zaK:=GY×Sl q9×Uc
abbrev ZH:=GS×zaK
abbrev zpH:=Yn->Uv ZH
abbrev YE:=zH->Uv ZH
abbrev zpI:=Int×GW
abbrev zzx:=zaE⊕xj
abbrev Ug:=Sl qj×Ub×zA
abbrev Ur:=Sl qg
abbrev ZB:=Ug×Ur
abbrev zg7:=q6×ZB
abbrev zuQ:=zg7->Uv (zz×Ug×Ur×Sl qi)
abbrev yd:=Int×Uj×GT
abbrev yp:=Int×yd
abbrev Xr:=Int×yp
abbrev WC:=Bool×yd
abbrev zmi:=Xr->Uv WC
abbrev zzy:=zA×GU⊕zr×Sl qt×Sl qw×q8×zA
abbrev WB:=Ua×Int×Int×(Sl qf×Uf×zA)×Uq×qh
abbrev zd6:=zA×GP⊕WB
abbrev zzz:=xj->Uv xj
abbrev xJ:=GY×Sl q9×GS×GS×Uc
abbrev zac:=Bool×xJ
abbrev zzA:=Int×Bool×Sl qm×q8×GO
abbrev zmj:=Xr->Uv yd
abbrev Ym:=GS×zH
abbrev vf:=zH->Uv Ym
abbrev zcH:=q6->Uv zpN
abbrev xk:=Int×zg7
abbrev vp:=Int×ZB
abbrev zmk:=xk->Uv (qi×vp)
abbrev xl:=Int×GT×Uj
abbrev zd7:=yp->Uv xl
abbrev Vf:=Int×xl
abbrev zpJ:=yd->Uv Vf
abbrev zfU:=GS×GY×GS×Sl q9×Uc
abbrev zpK:=Int×GZ
abbrev zmm:=yd->Uv yp
abbrev zzC:=zf⊕q7×GS×Ua⊕q7×q8×GS
abbrev vS:=Sl qm×GO×Sl qz
abbrev zuS:=xk->Uv vp
abbrev zzD:=zA⊕Uf×Ua×q8×zr×Ua×zr×Sl qt
abbrev zvI:=Int×Uc×ZB
abbrev zcI:=zvI->Uv ZB
abbrev zic:=Int×Int×Int×ql×GT×Sl GX×GX×Uj×Uj
abbrev zjq:=Int×vp
abbrev zd8:=zjq->Uv ZB
abbrev zuV:=zf⊕q7×q8⊕X7
abbrev zcJ:=zf⊕xi
abbrev xm:=Ut×zH
abbrev zV:=Bool×zH
abbrev yg:=xm->Uv zV
abbrev zpL:=Int×Uk
abbrev zzF:=Sl qm×GO
abbrev zjl:=Bool×X7
abbrev zpO:=Ut×Int×zjl
abbrev zzG:=Int×Ug×Ur×qi⊕Ug×Ur×qi
abbrev wn:=xm->Uv zH
abbrev Zw:=q6×zH
abbrev zzI:=Zw->Uv Zw
abbrev zuY:=zH->Uv zaK
abbrev WA:=GX×Int×Int×Int×Int×ql×(Ut×Sl zA)×Sl ql
abbrev zpP:=Bool⊕WA
abbrev Ul:=Int×q7
abbrev yw:=q7×Ua
abbrev Zk:=zf⊕GS×yw
abbrev zpQ:=Ul->Uv Zk
abbrev zad:=Yn->Uv zH
abbrev zpR:=zH->Uv Yn
abbrev zjC:=Ut×zz×Sl qi
abbrev zeM:=Int×zz×Sl qi
abbrev zvq:=zjC->Uv zeM
abbrev wF:=zH->Uv Zw
abbrev zcK:=vp⊕ZB
abbrev zvr:=zA⊕Int×Int×Int×ql×(Ut×Sl zA)×Sl GX
abbrev zvs:=zA⊕zr×GU
abbrev zvt:=xm⊕zH
abbrev zjk:=zA×q8×zA⊕q8×Int×Int×GQ
abbrev ZR:=q7->Uv Zk
abbrev zvA:=GS×yw⊕zf
abbrev zpS:=q7->Uv zvA
abbrev zg5:=zA⊕GU
abbrev zvu:=Uf×q8->Uv zg5
abbrev zvv:=ZB⊕ZB
abbrev Z5:=zf⊕GS×q7
abbrev wG:=q7->Uv Z5
abbrev zqp:=q6×Sl qj×Ub
abbrev zvx:=zqp->Uv ZB
abbrev zcW:=Sl Ut
abbrev zg3:=Ua×Int×Int×Ut×Ut×zcW×Sl qm
abbrev zqa:=Int×Uc×(Int×zA)×Ur
abbrev Z7:=Int×Ur
abbrev Us:=Uv Z7
abbrev zvy:=zqa->Us
abbrev zg4:=ql×Sl GX×yd
abbrev zaS:=ql×Sl GX
abbrev zqg:=Bool×Uj×zaS
abbrev zvz:=zqg->Uv zaS
abbrev zaF:=zf⊕q7×q8⊕q7×GS
abbrev xq:=Int×Int×Uf
abbrev zvB:=zA×q8×xq⊕q8×xq
abbrev zjH:=zA×xq
abbrev zvC:=zjH->Uv xq
abbrev Yo:=Int×Int×Uq
abbrev zjL:=zA×Yo
abbrev zpX:=zjL->Uv Yo
abbrev zjm:=Int×Xr
abbrev zvD:=zeM⊕zz×Sl qi
abbrev zvE:=zf⊕q7×q8×GS
abbrev zeB:=Int×Uc×vp
abbrev zeC:=GS×Int×Int×yw
abbrev X8:=Ut×Ut
abbrev zcL:=X8->Uv (Bool×Sl ql×Sl q15)
abbrev zjn:=Ua×Sl qh×GP
abbrev zcS:=Int×Ut×Ur
abbrev zvF:=zcS->Uv (qi×Z7)
abbrev zaM:=Ut×GY
abbrev zvG:=zaM->Uv (Sl qw)
abbrev zeD:=zaM->Uv (Sl qu)
abbrev zqj:=Int×Uc×Sl qi×Ur
abbrev zvH:=zqj->Us
abbrev zvJ:=X8->Uv (q13×q1w×Bool)
abbrev WE:=Ut×q7
abbrev ye:=zf⊕q7
abbrev Xs:=WE->Uv ye
abbrev Vh:=zf⊕Ul
abbrev zjp:=Ul->Uv Vh
abbrev zv2:=WE⊕zf
abbrev zp2:=q7->Uv zv2
abbrev zqo:=q8×Sl qf×Uf
abbrev zvK:=zqo->Uv Yo
abbrev zhb:=zf⊕qr×q7
abbrev zvL:=Ul->Uv zhb
abbrev zp5:=(Ut×X8)×Ul
abbrev zvM:=xq->Uv xq
abbrev zp6:=Yo->Uv Yo
abbrev zp7:=zcS->Us
abbrev zcN:=q6->Uv (Ut×zcW×Sl qq)
abbrev ZS:=zf⊕q8×q7
abbrev zp8:=q8×q7->Uv ZS
abbrev X9:=Ua×Ut
abbrev yB:=Int×Ut
abbrev zvN:=X9->Uv yB
abbrev zaH:=Ut×Int×Int×Int×Bool×q9×q9
abbrev wH:=q6×Ub
abbrev zvO:=wH->Uv (qd×Int×Int×Ub)
abbrev zqm:=Int×q6×qi×Ur
abbrev zeE:=zqm->Us
abbrev yX:=zf⊕yw
abbrev Y3:=q7->Uv yX
abbrev zjW:=Bool×q8×Int
abbrev Yp:=zA⊕Unit
abbrev zeF:=zjW->Uv Yp
abbrev zeG:=Int×Yn
abbrev zjY:=qa×Ut
abbrev Z6:=Bool×Ut
abbrev zvQ:=zjY->Uv Z6
abbrev zaT:=q8×Ut
abbrev zjt:=zaT->Uv Z6
abbrev zjZ:=qh×Ut
abbrev zvR:=zjZ->Uv Z6
abbrev zjv:=zr->Uv (qr×Int)
abbrev zaO:=Int×Int×zaS
abbrev zvS:=zA⊕zaO
abbrev zqk:=q8×q7⊕zf
abbrev zjw:=q7->Uv zqk
abbrev Y4:=q7->Uv ZS
abbrev zvT:=ql×Int->Uv (qh×qh×Int×Bool)
abbrev Xu:=Sl qh×qh
abbrev zaR:=Bool×Xu
abbrev zjy:=Xu->Uv zaR
abbrev Vn:=q8×Uf
abbrev zvU:=Vn->Uv (Int×Int×Sl qf)
abbrev zvV:=wH->Uv (Int×Int×Sl qj)
abbrev zqr:=Int×Int×Sl qr
abbrev zjz:=Ut->Uv zqr
abbrev vv:=Int×Xu
abbrev zvW:=Xu->Uv vv
abbrev zjA:=Ut->Uv (Int×Int×Sl q9)
abbrev zqb:=Uq×q8->Uv (Int×Uq×q8)
abbrev zjR:=zcW×Ut
abbrev GV:=Uv Int
abbrev zvY:=zjR->GV
abbrev zqq:=ql×Int×GX
abbrev zqc:=zqq->Uv GX
abbrev zaL:=Ul->Uv zf
abbrev zvZ:=Vn->Uv (qf×zA)
abbrev zv0:=wH->Uv (qj×zA)
abbrev zjD:=Sl qh×Int×Int×ql×qm×Uj
abbrev Ud:=Uv Bool
abbrev zqd:=X8->Ud
abbrev zL:=Bool×q7
abbrev Zx:=WE->Uv zL
abbrev zql:=qa×Ut×Ua
abbrev zeJ:=zql->GV
abbrev zqe:=zz->Uv (q9×Int)
abbrev zeK:=Ut->Uv (q8×zA)
abbrev zeL:=Ut->Uv (q6×zA)
abbrev zjE:=Ut×Int×Int×Sl qr×qr
abbrev zeQ:=GX×Int×Int×Sl ql
abbrev zv1:=Bool⊕zeQ
abbrev zj1:=Ua×Ua
abbrev zg8:=Ua×Int×Int×zj1
abbrev zjF:=Uf×Ua×Int×Int×Sl qf
abbrev Vm:=Int×Sl qm
abbrev zg9:=qm×Sl qm->Uv Vm
abbrev zjG:=Int×Int×zcW×Sl qz
abbrev zqh:=X9->Ud
abbrev zha:=Ut×Int×Int×q9×q9
abbrev zjI:=wH->Uv (qi×Bool)
abbrev zjJ:=q8->Uv xq
abbrev zjK:=q6->Uv (Int×Int×Ub)
abbrev zjM:=Ut->Uv (q13×Bool)
abbrev zqi:=Ut×Ut×GX
abbrev zcT:=Uf×Ut
abbrev zcQ:=zcT->GV
abbrev zv3:=Vn->Uv (qh×Int)
abbrev zjT:=Ub×Ut
abbrev Vg:=zjT->GV
abbrev zjU:=Uc×Ut
abbrev zeN:=zjU->GV
abbrev zv4:=zA⊕Ut×Sl qr
abbrev zjN:=vv⊕Xu
abbrev zv5:=zA⊕Ut×Sl q9
abbrev zv6:=Int×Uq×q8⊕Uq×q8
abbrev yM:=q8×Sl qm->Uv (Sl qm)
abbrev zcR:=ql×Int->Uv (qm×Bool)
abbrev WD:=zz->GV
abbrev zjO:=Ut->Uv Ut
abbrev WG:=Bool×qh
abbrev zjP:=qh×qh->Uv WG
abbrev zv7:=qf×q8->Uv (Bool×q8)
abbrev Xv:=Bool×qm
abbrev zv8:=qf×qm->Uv Xv
abbrev zv9:=qe×qm->Uv Xv
abbrev zaP:=yB⊕Ut
abbrev zeO:=q8->Uv zj1
abbrev vt:=qe×Ut->GV
abbrev Vi:=q6×Int->Uv (Sl qq)
abbrev zjQ:=zf⊕q7×q8
abbrev zhc:=GX->Uv GX
abbrev ZC:=ql×Int->Uv Uj
abbrev zhd:=qm->Uv zcW
abbrev zeR:=ql->Uv (Sl GX)
abbrev zeS:=q6×Int->Uv Uc
abbrev vu:=Ut->Ud
abbrev zhe:=Ut×Int×Sl qr
abbrev Vj:=Ut×Int×Sl q9
abbrev Vk:=ql->Uv zA
abbrev xp:=q7->Uv (qr×q7)
abbrev Vl:=ql×Int->GV
abbrev zqn:=q8×Int->Uv qz
abbrev zjS:=q8->Uv (Sl qz)
abbrev zeU:=Z7⊕Ur
abbrev zaQ:=Unit->Ud
abbrev Zl:=Int->Ud
abbrev zjV:=Sl qh×Ut
abbrev wa:=q8->GV
abbrev wc:=q6->GV
abbrev zjX:=q8×q8×Sl qm
abbrev zcU:=q8->Uv q1m
abbrev zeV:=Int×Ul
abbrev zcV:=q8->Uv qz
abbrev zj0:=q8->Uv q8
abbrev WF:=q6->Uv qp
abbrev zj2:=Int×qm⊕qm
abbrev zeW:=Int⊕Unit
abbrev zeX:=qh×Uf
abbrev zia:=zcG
abbrev Wz:=YE
abbrev zib:=zcI
abbrev zeP:=yM
abbrev zeT:=Vi
abbrev Zs:=Ut
theorem eqT{α:Type}{a b c d:α}(h:a=b)(k:b=c)(l:c=d):a=d:=h.trans (k.trans l)
def qgc(x:Int):Ud:=f (q (x≠10))
def qd6:Zl:=qgc
theorem qlj:qd6=P0.F:=jO
def qkl(A:Zl):zz->Uv (Step zz Int):=λ(a,b)=>Z (ite (q (b < (↑(V a):Int))) (Z (Zh a b) λc=>Z (A c) λd=>f (a,b,d)) (f (a,b,N))) λ(c,d,e)=>ite e (f (Step.next (c,Uw (d+1)))) (f (Step.done d))
def qh3(A:Zl)(x:zz):GV:=Z (lpO (qkl A) x) λa=>f a
def qcy:zz->GV:=qh3 qd6
theorem ql0:qcy=P1.F:=by delta qcy;rw[qlj];kernel_rfl
def qhm(x:Int):Ud:=Z (ite (q (48<=x)) (f (q (x<=57))) (f N)) λa=>f a
def qb9:Zl:=qhm
theorem qi0:qb9=P2.F:=jO
def q78(A:Zl):zz->Uv (Step zz Int):=λ(a,b)=>Z (ite (q (b < (↑(V a):Int))) (Z (Zh a b) λc=>Z (A c) λd=>f (a,b,d)) (f (a,b,N))) λ(c,d,e)=>ite e (f (Step.next (c,Uw (d+1)))) (f (Step.done d))
def qhq(A:Zl)(x:zz):GV:=Z (lpO (q78 A) x) λa=>f a
def qef:zz->GV:=qhq qb9
theorem qlh:qef=P3.F:=by delta qef;rw[qi0];kernel_rfl
def qei:=wx
theorem qkm:F4=qei:=rfl
def qh7(x:Int):Ud:=Z (ite (q (97<=x)) (ite (q (x<=122)) (f g) (f (q (x=95)))) (f (q (x=95)))) λa=>f a
def q9c:Zl:=qh7
theorem qhr:q9c=P5.F:=jO
def qh9(A:zr->Uv (Int⊕Int))(B:Zl)(x:zr):Uv (qr×Int):=Z (ZI x.1 x.2.1 x.2.2) λa=>Z (Z (A (a,10,64)) λb=>F (λc=>f (y (x.1,x.2.1,x.2.2,a,c,qr.mk 0 (lit []) 0 0))) (λc=>f (M (x.1,x.2.1,x.2.2,a,c,qr.mk 0 (lit []) 0 0))) b) λb=>F (λ(c,d,e,i,j,_)=>ite (q (1099511627776 < j)) (f (qr.mk 0 (lit []) 0 0,12)) (ite (q (1 < (↑(V i):Int))) (Z (Zh i 0) λl=>ite (q (l=48)) (f (qr.mk 0 (lit []) 0 0,12)) (ite (q (e < (↑(V c):Int))) (Z (Zh c e) λm=>Z (B m) λn=>ite n (f (qr.mk 0 (lit []) 0 0,12)) (f (qr.mk 3 i j d,0))) (f (qr.mk 3 i j d,0)))) (ite (q (e < (↑(V c):Int))) (Z (Zh c e) λo=>Z (B o) λp=>ite p (f (qr.mk 0 (lit []) 0 0,12)) (f (qr.mk 3 i j d,0))) (f (qr.mk 3 i j d,0))))) (λ(_,_,_,_,_,_)=>f (qr.mk 0 (lit []) 0 0,12)) b
def qeh:zr->Uv (qr×Int):=qh9 qei q9c
theorem qls:qeh=P6.F:=by delta qeh;rw[<-qkm,qhr];kernel_rfl
def qh8(A:Zl)(B:Zl)(x:Int):Ud:=Z (Z (A x) λa=>ite a (f g) (Z (B x) λb=>f b)) λa=>f a
def qeg:Zl:=qh8 q9c qb9
theorem qlt:qeg=P7.F:=by delta qeg;rw[qhr,qi0];kernel_rfl
def ql1(A:Zl):zz->Uv (Step zz Int):=λ(a,b)=>Z (ite (q (b < (↑(V a):Int))) (Z (Zh a b) λc=>Z (A c) λd=>f (a,b,d)) (f (a,b,N))) λ(c,d,e)=>ite e (f (Step.next (c,Uw (d+1)))) (f (Step.done d))
def qhf(A:Zl)(x:zz):GV:=Z (lpO (ql1 A) x) λa=>f a
def qdk:zz->GV:=qhf qeg
theorem qld:qdk=P8.F:=by delta qdk;rw[qlt];kernel_rfl
def qhn(x:Zs):Ud:=Z (ite (q (x=lit [116,121,112,101])) (f (q (x=lit [116,121,112,101]))) (Z (ite (q (x=lit [102,110])) (f (q (x=lit [102,110]))) (Z (ite (q (x=lit [111,119,110])) (f (q (x=lit [111,119,110]))) (Z (ite (q (x=lit [99,101,108,108])) (f (q (x=lit [99,101,108,108]))) (Z (ite (q (x=lit [99,111,117,110,116,101,100])) (f (q (x=lit [99,111,117,110,116,101,100]))) (Z (ite (q (x=lit [108,111,99,107])) (f (q (x=lit [108,111,99,107]))) (Z (ite (q (x=lit [103,117,97,114,100])) (f (q (x=lit [103,117,97,114,100]))) (Z (ite (q (x=lit [119,104,101,114,101])) (f (q (x=lit [119,104,101,114,101]))) (Z (ite (q (x=lit [105,110,116])) (f (q (x=lit [105,110,116]))) (Z (ite (q (x=lit [109,117,116])) (f (q (x=lit [109,117,116]))) (Z (ite (q (x=lit [102,114,101,101])) (f (q (x=lit [102,114,101,101]))) (Z (ite (q (x=lit [117,110,108,111,99,107])) (f (q (x=lit [117,110,108,111,99,107]))) (Z (ite (q (x=lit [105,102])) (f (q (x=lit [105,102]))) (Z (ite (q (x=lit [101,108,115,101])) (f (q (x=lit [101,108,115,101]))) (Z (ite (q (x=lit [119,104,105,108,101])) (f (q (x=lit [119,104,105,108,101]))) (Z (ite (q (x=lit [114,101,116,117,114,110])) (f (q (x=lit [114,101,116,117,114,110]))) (Z (ite (q (x=lit [97,98,111,114,116])) (f (q (x=lit [97,98,111,114,116]))) (Z (ite (q (x=lit [102,111,114,107])) (f (q (x=lit [102,111,114,107]))) (Z (ite (q (x=lit [110,101,119])) (f (q (x=lit [110,101,119]))) (f (q (x=lit [97,114,114,97,121])))) λa=>f a)) λa=>f a)) λa=>f a)) λa=>f a)) λa=>f a)) λa=>f a)) λa=>f a)) λa=>f a)) λa=>f a)) λa=>f a)) λa=>f a)) λa=>f a)) λa=>f a)) λa=>f a)) λa=>f a)) λa=>f a)) λa=>f a)) λa=>f a)) λa=>ite a (f g) (f N)
def qf2:vu:=qhn
theorem qlz:qf2=P9.F:=jO
def qhz(A:vu)(x:zr):Uv (qr×Int):=Z (ZI x.1 x.2.1 x.2.2) λa=>ite (q (16 < (↑a.size:Int))) (f (qr.mk 0 (lit []) 0 0,13)) (Z (A a) λb=>Z (ite b (f (qr.mk 0 (lit []) 0 0,qr.mk 2 a 0 x.2.1)) (f (qr.mk 0 (lit []) 0 0,qr.mk 1 a 0 x.2.1))) λ(_,c)=>f (c,0))
def qgd:zr->Uv (qr×Int):=qhz qf2
theorem qm4:qgd=P10.F:=by delta qgd;rw[qlz];kernel_rfl
def q51(x:X8):Ud:=Z (ite (q ((↑(V x.2):Int)<=(↑(V x.1):Int))) (Z (ZI x.1 0 (↑(V x.2):Int)) λa=>f (q (a=x.2))) (f N)) λa=>f a
def qbf:X8->Ud:=q51
theorem qfo:qbf=P11.F:=jO
def qgg(A:zqd)(x:X8):Ud:=Z (A x) λa=>f a
def q8k:X8->Ud:=qgg qbf
theorem qk0:q8k=P12.F:=by delta q8k;rw[qfo];kernel_rfl
def q8l:=Wj
theorem qk1:F13=q8l:=rfl
def qcl(A:zqd)(B:WD):Ut×(Ut×X8)×Int->Uv (Step (Ut×(Ut×X8)×Int) (Ut⊕Ut)):=λ(a,b,c)=>ite (q (c < 3)) (Z (vL [b.1,b.2.1,b.2.2] c) λd=>Z (A (a,d)) λe=>ite e (f (Step.done (y d))) (f (Step.next (a,b,Uw (c+1))))) (f (Step.done (M a)))
def qlb(A:zqd)(B:WD)(x:Zs):Uv Ut:=Z (lpO (qcl A B) (x,(lit [45,62],lit [60,61],lit [61,61]),0)) λa=>F (λb=>f b) (λb=>Z (Zh b 0) λc=>Z (B (lit [123,125,40,41,91,93,44,58,59,61,43,45,38,60],c)) λd=>ite (q (0<=d)) (Z (ZI b 0 1) λe=>f e) (f (lit []))) a
def qhi:zjO:=qlb q8k q8l
theorem qm5:qhi=P14.F:=by delta qhi;rw[qk0,<-qk1];kernel_rfl
def qfg(A:WD)(B:Zl)(C:WD)(D:zjv)(E:Zl)(G:WD)(H:zjv)(I:zjO):zhe->Uv (Step zhe zv4):=λ(a,b,c)=>ite (q (b < (↑(V a):Int))) (Z (Z (Zh a b) λd=>Z (ite (q (d=32)) (f (a,b,0,d,g,c,qr.mk 0 (lit []) 0 0)) (f (a,b,0,d,q (d=10),c,qr.mk 0 (lit []) 0 0))) λ((e,i,j,l,m,n,_):Ut×Int×Int×Int×Bool×Sl qr×qr)=>Z (ite m (f (y (e,Uw (i+1),n))) (ite (q (l=35)) (Z (A (e,i)) λo=>f (y (e,o,n))) (Z (B l) λp=>Z (ite p (Z (C (e,i)) λr=>Z (D (e,i,r)) λ(s,t)=>f (e,i,t,n,s)) (Z (E l) λu=>Z (ite u (Z (G (e,i)) λv=>Z (H (e,i,v)) λ(w,z)=>f (e,i,z,n,w)) (Z (ZI e i (↑(V e):Int)) λJ=>Z (I J) λK=>Z (ite (q (K=lit [])) (f (e,i,11,n,qr.mk 4 K 0 i)) (f (e,i,j,n,qr.mk 4 K 0 i))) λ(L:zjE)=>f L)) λ(v:zjE)=>f v)) λ(r:zjE)=>f (M r)))) λ(o:Ut×Int×Sl qr⊕Ut×Int×Int×Sl qr×qr)=>F (λp=>f (y p)) (λ(p,r,s,t,u)=>ite (q (s≠0)) (f (M (r,s))) (Z (zo 40 t [u]) λv=>f (y (p,Uw (r+(↑u.T_.size:Int)),v)))) o) λ(d:Ut×Int×Sl qr⊕Int×Int)=>F (λe=>f (Step.next e)) (λe=>f (Step.done (y e))) d) (f (Step.done (M (a,c))))
def qha(A:WD)(B:Zl)(C:WD)(D:zjv)(E:Zl)(G:WD)(H:zjv)(I:zjO)(x:Zs):Uv zqr:=Z (ite (q (16384 < (↑x.size:Int))) (f (0,10,O [] N)) (Z (lpO (qfg A B C D E G H I) (x,0,O [] N)) λa=>F (λ(b,c)=>f (b,c,O [] N)) (λ(b,c)=>Z (zo 40 c [qr.mk 0 (lit []) 0 (↑(V b):Int)]) λd=>f (0,0,d)) a)) λ(a:zqr)=>f a
def qd7:zjz:=qha qcy qb9 qef qeh q9c qdk qgd qhi
theorem qlu:qd7=P15.F:=by delta qd7;rw[ql0,qi0,qlh,qls,qhr,qld,qm4,qm5];kernel_rfl
def qfr(x:q7):Uv (qr×q7):=Z (za x.Z_ 0) λa=>f (a,x)
def q14:xp:=qfr
theorem q2u:q14=P16.F:=jO
def qgw(A:xp)(x:WE):Uv zL:=Z (A x.2) λa=>Z (ite (q (a.1.k_=2)) (f (q (a.1.T_=x.1),a.2)) (ite (q (a.1.k_=4)) (f (q (a.1.T_=x.1),a.2)) (f (N,a.2)))) λb=>f b
def q2k:WE->Uv zL:=qgw q14
theorem q7s:q2k=P17.F:=by delta q2k;rw[q2u];kernel_rfl
def qgh(A:Zx)(x:WE):Uv zL:=Z (A x) λa=>ite (!a.1) (f (N,a.2)) (Z (z8 a.2.Z_ 1 a.2.Z_.len) λb=>f (g,q7.mk b a.2.D_))
def q11:WE->Uv zL:=qgh q2k
theorem q1i:q11=P18.F:=by delta q11;rw[q7s];kernel_rfl
def qfs(A:xp)(x:Ul):Uv zf:=Z (A x.2) λa=>f ((a.1.a_,x.1),a.2)
def q1y:Ul->Uv zf:=qfs q14
theorem q6n:q1y=P19.F:=by delta q1y;rw[q2u];kernel_rfl
def qft(A:xp)(B:zaL)(x:Ul):Uv zhb:=Z (A x.2) λa=>ite (q (a.1.k_≠x.1)) (Z (B (20,a.2)) λb=>f (y b)) (Z (z8 a.2.Z_ 1 a.2.Z_.len) λc=>f (M (a.1,q7.mk c a.2.D_)))
def q69:Ul->Uv zhb:=qft q14 q1y
theorem qgi:q69=P20.F:=by delta q69;rw[q2u,q6n];kernel_rfl
def qfu(A:zvL)(x:q7):Uv Z5:=Z (A (1,x)) λa=>F (λb=>f (y b)) (λb=>f (M ((5,b.1.T_,0,b.1.a_),b.2))) a
def q1d:wG:=qfu q69
theorem q37:q1d=P21.F:=by delta q1d;rw[qgi];kernel_rfl
def qfv(A:Zx)(B:zaL)(x:WE):Uv ye:=Z (A x) λa=>ite (!a.1) (Z (B (20,a.2)) λb=>f (y b)) (f (M a.2))
def q19:WE->Uv ye:=qfv q11 q1y
theorem q2f:q19=P22.F:=by delta q19;rw[q1i,q6n];kernel_rfl
def qfw(A:xp)(B:Zx)(C:Xs)(D:wG)(x:q7):Uv zqk:=Z (A x) λa=>Z (A a.2) λb=>Z (B (lit [105,110,116],b.2)) λc=>ite c.1 (f (y (q8.mk 8 a.1.T_ 0 b.1.a_ (O [] N),c.2))) (Z (B (lit [111,119,110],c.2)) λd=>Z (ite d.1 (f (y (d.2,(0,lit [],0,0),8,a.1.T_,0,b.1.a_))) (Z (C (lit [38],d.2)) λe=>F (λi=>f (M i)) (λi=>Z (B (lit [109,117,116],i)) λj=>Z (ite j.1 (f (j.2,(0,lit [],0,0),8,lit [38,109,117,116],0,b.1.a_)) (f (j.2,(0,lit [],0,0),8,a.1.T_,0,b.1.a_))) λ(l:X7)=>f (y l)) e)) λ(e:q7×(Int×Ut×Int×Int)×Int×Ut×Int×Int⊕zA×q7)=>F (λi=>Z (D i.1) λj=>F (λl=>f (M l)) (λl=>f (y (q8.mk i.2.2.1 i.2.2.2.1 i.2.2.2.2.1 i.2.2.2.2.2 (O [q8.mk l.1.1 l.1.2.1 l.1.2.2.1 l.1.2.2.2 (O [] N)] g),l.2))) j) (λi=>f (M i)) e)
def qat:zjw:=qfw q14 q11 q19 q1d
theorem qgj:qat=P23.F:=by delta qat;rw[q2u,q1i,q2f,q37];kernel_rfl
def qf5(A:wG)(B:Xs)(C:zjw)(x:q7):Uv Zk:=Z (A x) λa=>F (λb=>f (y b)) (λb=>Z (B (lit [58],b.2)) λc=>F (λd=>f (y d)) (λd=>Z (C d) λe=>F (λi=>f (M ((7,b.1.2),i.2,O [ke i.1] g))) (λi=>f (y i)) e) c) a
def q9n:ZR:=qf5 q1d q19 qat
theorem qij:q9n=P24.F:=by delta q9n;rw[q37,q2f,qgj];kernel_rfl
def q9e(A:ZR)(B:Zx):yw->Uv (Step yw yX):=λa=>Z (B (lit [44],a.1)) λb=>ite b.1 (Z (A b.2) λc=>F (λd=>f (Step.done (y d))) (λd=>Z (zo 64 a.2 [q8.mk d.1.1 d.1.2.1 d.1.2.2.1 d.1.2.2.2 d.2.2]) λe=>f (Step.next (d.2.1,e))) c) (f (Step.done (M (b.2,a.2))))
def qdi(A:ZR)(B:Zx)(x:q7):Uv yX:=Z (A x) λa=>F (λb=>f (y b)) (λb=>Z (lpO (q9e A B) (b.2.1,O [q8.mk b.1.1 b.1.2.1 b.1.2.2.1 b.1.2.2.2 b.2.2] g)) λc=>F (λd=>f (y d)) (λd=>f (M d)) c) a
def qal:Y3:=qdi q9n q11
theorem qhd:qal=P25.F:=by delta qal;rw[qij,q1i];kernel_rfl
def qev(x:q8×Int):Uv (q8×Int):=f (q8.mk x.1.k_ x.1.T_ x.1.n_ x.2 x.1.K_,x.2)
def q8s:q8×Int->Uv (q8×Int):=qev
theorem qi1:q8s=P26.F:=jO
def qf6(A:Xs)(x:q8×q7):Uv ZS:=Z (A (lit [59],x.2)) λa=>F (λb=>f (y b)) (λb=>f (M (ke x.1,b))) a
def q7a:q8×q7->Uv ZS:=qf6 q19
theorem qik:q7a=P27.F:=by delta q7a;rw[q2f];kernel_rfl
def qew(A:zvL)(x:Ul):Uv Vh:=Z (A (3,x.2)) λa=>F (λb=>f (y b)) (λb=>f (M (Uw (x.1 * b.1.n_),b.2))) a
def q5f:Ul->Uv Vh:=qew q69
theorem q95:q5f=P28.F:=by delta q5f;rw[qgi];kernel_rfl
def qgx(A:wG)(B:Xs)(C:zjp)(x:Ul):Uv Z5:=Z (A x.2) λa=>F (λb=>f (y b)) (λb=>Z (B (lit [91],b.2)) λc=>F (λd=>f (y d)) (λd=>Z (C (1,d)) λe=>F (λi=>f (y i)) (λi=>Z (B (lit [93],i.2)) λj=>F (λl=>f (y l)) (λl=>f (M ((x.1,b.1.2.1,i.1,b.1.2.2.2),l))) j) e) c) a
def qc2:Ul->Uv Z5:=qgx q1d q19 q5f
theorem qkn:qc2=P29.F:=by delta qc2;rw[q37,q2f,q95];kernel_rfl
def qfx(A:Zx)(B:zjp)(x:q8×q7):Uv ZS:=Z (A (lit [43],x.2)) λa=>Z (ite a.1 (Z (B (1,a.2)) λb=>F (λc=>f (y c)) (λc=>f (M (c.2,q8.mk x.1.k_ x.1.T_ c.1 x.1.a_ x.1.K_,0,lit [],0,0))) b) (Z (A (lit [45],a.2)) λc=>Z (ite c.1 (Z (B (-1,c.2)) λd=>F (λe=>f (y e)) (λe=>f (M (e.2,q8.mk x.1.k_ x.1.T_ e.1 x.1.a_ x.1.K_,0,lit [],0,0))) d) (f (M (c.2,ke x.1,0,lit [],0,0)))) λ(d:zvE)=>F (λe=>f (y e)) (λe=>f (M (e.1,ke e.2.1,e.2.2))) d)) λ(b:zvE)=>F (λc=>f (y c)) (λc=>f (M (ke c.2.1,c.1))) b
def q6a:q8×q7->Uv ZS:=qfx q11 q5f
theorem qgk:q6a=P30.F:=by delta q6a;rw[q1i,q95];kernel_rfl
def qfy(A:xp)(B:zjp)(C:Zx)(D:wG)(E:zp8)(x:q7):Uv ZS:=Z (A x) λa=>Z (A a.2) λb=>Z (ite (q (b.1.k_=3)) (Z (B (1,b.2)) λc=>F (λd=>f (y d)) (λd=>f (M (y (d.2,5,lit [],d.1,a.1.a_)))) c) (Z (C (lit [45],b.2)) λd=>ite d.1 (Z (B (-1,d.2)) λe=>F (λi=>f (y i)) (λi=>f (M (y (i.2,5,lit [],i.1,a.1.a_)))) e) (f (M (M (d.2,0,lit [],0,0)))))) λ(c:zA×q7⊕q7×Int×Ut×Int×Int⊕q7×Int×Ut×Int×Int)=>F (λd=>f (y d)) (λd=>F (λe=>f (M (q8.mk e.2.1 e.2.2.1 e.2.2.2.1 e.2.2.2.2 (O [] N),e.1))) (λe=>Z (Z (D e.1) λi=>F (λj=>f (y j)) (λj=>Z (E (q8.mk j.1.1 j.1.2.1 j.1.2.2.1 j.1.2.2.2 (O [] N),j.2)) λl=>F (λm=>f (y m)) (λm=>f (M (m.2,ke m.1))) l) i) λ(i:zjQ)=>F (λj=>f (y j)) (λj=>f (M (ke j.2,j.1))) i) d) c
def q2s:Y4:=qfy q14 q5f q11 q1d q6a
theorem q84:q2s=P31.F:=by delta q2s;rw[q2u,q95,q1i,q37,qgk];kernel_rfl
def q7y(A:Zx)(B:zaL):zp5->Uv (Step zp5 (WE⊕q7)):=λa=>ite (q (a.2.1 < 3)) (Z (vL [a.1.1,a.1.2.1,a.1.2.2] a.2.1) λb=>Z (A (b,a.2.2)) λc=>ite c.1 (f (Step.done (y (b,c.2)))) (f (Step.next (a.1,Uw (a.2.1+1),c.2)))) (f (Step.done (M a.2.2)))
def qgl(A:Zx)(B:zaL)(x:q7):Uv zv2:=Z (lpO (q7y A B) ((lit [60],lit [60,61],lit [61,61]),0,x)) λa=>F (λb=>f (y b)) (λb=>Z (B (20,b)) λc=>f (M c)) a
def qe7:zp2:=qgl q11 q1y
theorem qk2:qe7=P32.F:=by delta qe7;rw[q1i,q6n];kernel_rfl
def qfz(A:Y4)(B:zp2)(x:q7):Uv Zk:=Z (A x) λa=>F (λb=>f (y b)) (λb=>Z (B b.2) λc=>F (λd=>Z (A d.2) λe=>F (λi=>f (y i)) (λi=>f (M ((4,d.1,0,b.1.a_),i.2,O [ke b.1,ke i.1] g))) e) (λd=>f (y d)) c) a
def q58:ZR:=qfz q2s qe7
theorem qgm:q58=P33.F:=by delta q58;rw[q84,qk2];kernel_rfl
def qai(A:Y4)(B:Zx):yw->Uv (Step yw yX):=λa=>Z (B (lit [44],a.1)) λb=>ite b.1 (Z (A b.2) λc=>F (λd=>f (Step.done (y d))) (λd=>Z (zo 64 a.2 [ke d.1]) λe=>f (Step.next (d.2,e))) c) (f (Step.done (M (b.2,a.2))))
def qe4(A:Y4)(B:Zx)(x:q7):Uv yX:=Z (A x) λa=>F (λb=>f (y b)) (λb=>Z (lpO (qai A B) (b.2,O [ke b.1] g)) λc=>F (λd=>f (y d)) (λd=>f (M d)) c) a
def qar:Y3:=qe4 q2s q11
theorem qhk:qar=P34.F:=by delta qar;rw[q84,q1i];kernel_rfl
def qg0(A:Xs)(B:Zx)(C:Y3)(x:q7):Uv yX:=Z (A (lit [40],x)) λa=>F (λb=>f (y b)) (λb=>Z (B (lit [41],b)) λc=>ite c.1 (f (M (c.2,O [] N))) (Z (C c.2) λd=>F (λe=>f (y e)) (λe=>Z (A (lit [41],e.1)) λi=>F (λj=>f (y j)) (λj=>f (M (j,e.2))) i) d)) a
def q6b:Y3:=qg0 q19 q11 qar
theorem qdx:q6b=P35.F:=by delta q6b;rw[q2f,q1i,qhk];kernel_rfl
def qg1(A:xp)(B:Zx)(C:zjp)(D:wG)(E:Y4)(G:Zx)(H:Y3)(I:Xs)(J:zp8)(x:q7):Uv ZS:=Z (A x) λa=>Z (B (lit [110,101,119],a.2)) λb=>Z (ite b.1 (Z (C (1,b.2)) λc=>F (λd=>f (y d)) (λd=>f (M (y (d.2,q8.mk 23 (lit []) d.1 a.1.a_ (O [] N))))) c) (Z (B (lit [97,114,114,97,121],b.2)) λd=>Z (ite d.1 (Z (D d.2) λe=>F (λi=>f (y i)) (λi=>f (M (y (i.2,q8.mk 24 i.1.2.1 0 a.1.a_ (O [] N))))) e) (Z (B (lit [38],d.2)) λi=>Z (ite i.1 (Z (B (lit [109,117,116],i.2)) λj=>Z (ite j.1 (f (j.2,(0,lit [],0,0),27,lit [],0,a.1.a_)) (f (j.2,(0,lit [],0,0),26,lit [],0,a.1.a_))) λ(l:X7)=>Z (D l.1) λm=>F (λn=>f (y n)) (λn=>f (M (y (n.2,q8.mk l.2.2.1 n.1.2.1 l.2.2.2.2.1 l.2.2.2.2.2 (O [] N))))) m) (Z (A i.2) λn=>ite (q (n.1.k_≠1)) (Z (E n.2) λo=>F (λp=>f (y p)) (λp=>f (M (y (p.2,ke p.1)))) o) (f (M (M (n.2,(0,lit [],0,0),0,lit [],0,a.1.a_)))))) λ(j:zuV)=>F (λl=>f (y l)) (λl=>F (λm=>f (M (y (m.1,ke m.2)))) (λm=>f (M (M m))) l) j)) λ(e:zuV)=>F (λi=>f (y i)) (λi=>F (λj=>f (M (y (j.1,ke j.2)))) (λj=>f (M (M j))) i) e)) λ(c:zuV)=>F (λd=>f (y d)) (λd=>F (λe=>f (M (ke e.2,e.1))) (λe=>Z (D e.1) λi=>F (λj=>f (y j)) (λj=>Z (G (lit [40],j.2)) λl=>Z (ite l.1 (Z (H l.2) λm=>F (λn=>f (y n)) (λn=>f (M (y (n.1,(28,j.1.2),n.2)))) m) (Z (B (lit [91],l.2)) λn=>Z (ite n.1 (Z (E n.2) λo=>F (λp=>f (y p)) (λp=>Z (I (lit [93],p.2)) λr=>F (λs=>f (y s)) (λs=>f (M (y (s,(25,j.1.2),O [ke p.1] g)))) r) o) (f (M (M (n.2,e.2.1,j.1))))) λ(o:zuN)=>F (λp=>f (y p)) (λp=>F (λr=>f (M (y r))) (λr=>f (M (M r))) p) o)) λ(m:zuN)=>F (λn=>f (y n)) (λn=>F (λo=>f (M (q8.mk o.2.1.1 o.2.1.2.1 o.2.1.2.2.1 o.2.1.2.2.2 o.2.2,o.1))) (λo=>Z (Yf (Z (Z (G (lit [43],o.1)) λp=>ite p.1 (Z (za p.2.Z_ 1) λr=>f (lit [43],21,q (r.k_=1),p.2,o.2)) (f (lit [43],21,N,p.2,o.2))) λ(p:zpO)=>Z (ite p.2.2.1 (Z (I (p.1,p.2.2.2.1)) λr=>F (λs=>f (y (s.1,s.2,p.2.2.2.2))) (λs=>Z (D s) λt=>F (λu=>f (y (u.1,u.2,p.2.2.2.2))) (λu=>f (M (y (u.2,(p.2.1,lit [],0,p.2.2.2.2.2.2.2.2),p.2.2.2.2.2,O [q8.mk p.2.2.2.2.2.1 p.2.2.2.2.2.2.1 p.2.2.2.2.2.2.2.1 p.2.2.2.2.2.2.2.2 (O [] N),q8.mk u.1.1 u.1.2.1 u.1.2.2.1 u.1.2.2.2 (O [] N)] g)))) t) r) (f (M (M p.2.2.2)))) λ(r:tA0)=>F (λs=>f (y (s.1,s.2.1))) (λs=>F (λt=>f (M (y (t.1,t.2.1,t.2.2.2)))) (λt=>Z (Z (G (lit [45],t.1)) λu=>ite u.1 (Z (za u.2.Z_ 1) λv=>f (lit [45],22,q (v.k_=1),u.2,t.2)) (f (lit [45],22,N,u.2,t.2))) λ(u:zpO)=>Z (ite u.2.2.1 (Z (I (u.1,u.2.2.2.1)) λv=>F (λw=>f (y (w.1,w.2,u.2.2.2.2))) (λw=>Z (D w) λz=>F (λK=>f (y (K.1,K.2,u.2.2.2.2))) (λK=>f (M (y (K.2,(u.2.1,lit [],0,u.2.2.2.2.2.2.2.2),u.2.2.2.2.2,O [q8.mk u.2.2.2.2.2.1 u.2.2.2.2.2.2.1 u.2.2.2.2.2.2.2.1 u.2.2.2.2.2.2.2.2 (O [] N),q8.mk K.1.1 K.1.2.1 K.1.2.2.1 K.1.2.2.2 (O [] N)] g)))) z) v) (f (M (M u.2.2.2)))) λ(v:tA0)=>F (λw=>f (y (w.1,w.2.1))) (λw=>F (λz=>f (M (y (z.1,z.2.1,z.2.2.2)))) (λz=>f (M (M z))) w) v) s) r) (Z (Z (G (lit [45],o.1)) λp=>ite p.1 (Z (za p.2.Z_ 1) λr=>f (lit [45],22,q (r.k_=1),p.2,o.2)) (f (lit [45],22,N,p.2,o.2))) λ(p:zpO)=>Z (ite p.2.2.1 (Z (I (p.1,p.2.2.2.1)) λr=>F (λs=>f (y (s.1,s.2,p.2.2.2.2))) (λs=>Z (D s) λt=>F (λu=>f (y (u.1,u.2,p.2.2.2.2))) (λu=>f (M (y (u.2,(p.2.1,lit [],0,p.2.2.2.2.2.2.2.2),p.2.2.2.2.2,O [q8.mk p.2.2.2.2.2.1 p.2.2.2.2.2.2.1 p.2.2.2.2.2.2.2.1 p.2.2.2.2.2.2.2.2 (O [] N),q8.mk u.1.1 u.1.2.1 u.1.2.2.1 u.1.2.2.2 (O [] N)] g)))) t) r) (f (M (M p.2.2.2)))) λ(r:tA0)=>F (λs=>f (y (s.1,s.2.1))) (λs=>F (λt=>f (M (y (t.1,t.2.1,t.2.2.2)))) (λt=>Z (Z (G (lit [43],t.1)) λu=>ite u.1 (Z (za u.2.Z_ 1) λv=>f (lit [43],21,q (v.k_=1),u.2,t.2)) (f (lit [43],21,N,u.2,t.2))) λ(u:zpO)=>Z (ite u.2.2.1 (Z (I (u.1,u.2.2.2.1)) λv=>F (λw=>f (y (w.1,w.2,u.2.2.2.2))) (λw=>Z (D w) λz=>F (λK=>f (y (K.1,K.2,u.2.2.2.2))) (λK=>f (M (y (K.2,(u.2.1,lit [],0,u.2.2.2.2.2.2.2.2),u.2.2.2.2.2,O [q8.mk u.2.2.2.2.2.1 u.2.2.2.2.2.2.1 u.2.2.2.2.2.2.2.1 u.2.2.2.2.2.2.2.2 (O [] N),q8.mk K.1.1 K.1.2.1 K.1.2.2.1 K.1.2.2.2 (O [] N)] g)))) z) v) (f (M (M u.2.2.2)))) λ(v:tA0)=>F (λw=>f (y (w.1,w.2.1))) (λw=>F (λz=>f (M (y (z.1,z.2.1,z.2.2.2)))) (λz=>f (M (M z))) w) v) s) r)) λp=>F (λr=>f (y r)) (λr=>F (λs=>f (M (q8.mk s.2.1.1 s.2.1.2.1 s.2.1.2.2.1 s.2.1.2.2.2 s.2.2,s.1))) (λs=>Z (J (q8.mk s.2.2.1 s.2.2.2.1 s.2.2.2.2.1 s.2.2.2.2.2 (O [] N),s.1)) λt=>F (λu=>f (y u)) (λu=>f (M (ke u.1,u.2))) t) r) p) n) m) i) d) c
def qdn:Y4:=qg1 q14 q11 q5f q1d q2s q2k q6b q19 q6a
theorem qjc:@Eq Y4 F36 qdn:=by delta qdn;rw[q2u,q1i,q95,q37,q84,q7s,qdx,q2f,qgk];kernel_rfl
def qf7(A:Zx)(B:Y3)(C:Zx)(D:Y4)(E:Xs)(G:Y4)(x:q8×q7):Uv Zk:=Z (A (lit [40],x.2)) λa=>Z (ite a.1 (Z (B a.2) λb=>F (λc=>f (y c)) (λc=>f (M (y (c.1,(20,lit [],0,x.1.a_),O [q8.mk 28 x.1.T_ x.1.n_ x.1.a_ c.2] g)))) b) (Z (C (lit [91],a.2)) λc=>Z (ite c.1 (Z (D c.2) λd=>F (λe=>f (y e)) (λe=>Z (E (lit [93],e.2)) λi=>F (λj=>f (y j)) (λj=>Z (E (lit [61],j)) λl=>F (λm=>f (y m)) (λm=>Z (D m) λn=>F (λo=>f (y o)) (λo=>f (M (y (o.2,(11,x.1.T_,x.1.n_,x.1.a_),O ([ke e.1]++[ke o.1]) (g || ![ke o.1].isEmpty))))) n) l) i) d) (f (M (M (c.2,ke x.1,0,lit [],0,0))))) λ(d:zzC)=>F (λe=>f (y e)) (λe=>F (λi=>f (M (y i))) (λi=>f (M (M (i.1,ke i.2.1,i.2.2)))) e) d)) λ(b:zzC)=>F (λc=>f (y c)) (λc=>F (λd=>f (M (d.2.1,d.1,d.2.2))) (λd=>Z (E (lit [61],d.1)) λe=>F (λi=>f (y i)) (λi=>Z (G i) λj=>F (λl=>f (y l)) (λl=>f (M ((10,d.2.1.T_,d.2.1.n_,d.2.1.a_),l.2,O [ke l.1] g))) j) e) c) b
def q9o:q8×q7->Uv Zk:=qf7 q2k q6b q11 q2s q19 qdn
theorem qil:q9o=P37.F:=by delta q9o;rw[q7s,qdx,q1i,q84,q2f,<-qjc];kernel_rfl
def q8j(A:ZR)(B:ZR)(x:zeV):Uv Zk:=Z (A x.2.2) λa=>F (λb=>f (y b)) (λb=>Z (B b.2.1) λc=>F (λd=>f (y d)) (λd=>Z (zo 64 b.2.2 [q8.mk d.1.1 d.1.2.1 d.1.2.2.1 d.1.2.2.2 d.2.2]) λe=>f (M ((x.1,b.1.2.1,b.1.2.2.1,x.2.1),d.2.1,e))) c) a
def q4a(h:ZR):zeV->Uv Zk:=q8j q58 h
theorem qex(h:ZR):@Eq ((zeV)->Uv Zk) (zk4 h) (q4a h):=by delta q4a;rw[qgm];kernel_rfl
def qaf(A:xp)(B:Zx)(C:wG)(D:q8×Int->Uv (q8×Int))(E:zp8)(G:Ul->Uv Z5)(H:zeV->Uv Zk)(I:ZR)(J:Zx)(K:Y4)(L:Y3)(P:q8×q7->Uv Zk)(x:q7):Uv ZS:=Z (A x) λa=>Z (B (lit [102,114,101,101],a.2)) λb=>Z (ite b.1 (Z (C b.2) λc=>F (λd=>f (y d)) (λd=>Z (D (q8.mk 12 d.1.2.1 d.1.2.2.1 d.1.2.2.2 (O [] N),a.1.a_)) λe=>Z (E (ke e.1,d.2)) λi=>F (λj=>f (y j)) (λj=>f (M (y (j.2,ke j.1)))) i) c) (Z (B (lit [108,111,99,107],b.2)) λd=>Z (ite d.1 (Z (Z (G (13,d.2)) λe=>F (λi=>f (y i)) (λi=>Z (D (q8.mk i.1.1 i.1.2.1 i.1.2.2.1 i.1.2.2.2 (O [] N),a.1.a_)) λj=>Z (E (ke j.1,i.2)) λl=>F (λm=>f (y m)) (λm=>f (M (m.2,ke m.1))) l) e) λ(e:zjQ)=>F (λi=>f (y i)) (λi=>f (M (y (i.1,ke i.2)))) e) (Z (B (lit [117,110,108,111,99,107],d.2)) λi=>Z (ite i.1 (Z (Z (G (14,i.2)) λj=>F (λl=>f (y l)) (λl=>Z (D (q8.mk l.1.1 l.1.2.1 l.1.2.2.1 l.1.2.2.2 (O [] N),a.1.a_)) λm=>Z (E (ke m.1,l.2)) λn=>F (λo=>f (y o)) (λo=>f (M (o.2,ke o.1))) n) j) λ(j:zjQ)=>F (λl=>f (y l)) (λl=>f (M (y (l.1,ke l.2)))) j) (Z (B (lit [105,102],i.2)) λl=>Z (ite l.1 (Z (H (15,a.1.a_,l.2)) λm=>F (λn=>f (y n)) (λn=>Z (B (lit [101,108,115,101],n.2.1)) λo=>Z (ite o.1 (Z (I o.2) λp=>F (λr=>f (y r)) (λr=>Z (zo 64 n.2.2 [q8.mk r.1.1 r.1.2.1 r.1.2.2.1 r.1.2.2.2 r.2.2]) λs=>f (M (r.2.1,(0,lit [],0,0),n.1,s))) p) (Z (zo 64 n.2.2 [q8.mk 9 (lit []) 0 a.1.a_ (O [] N)]) λr=>f (M (o.2,(0,lit [],0,0),n.1,r)))) λ(p:zcJ)=>F (λr=>f (y r)) (λr=>f (M (y (r.1,q8.mk r.2.2.1.1 r.2.2.1.2.1 r.2.2.1.2.2.1 r.2.2.1.2.2.2 r.2.2.2)))) p) m) (Z (B (lit [119,104,105,108,101],l.2)) λn=>Z (ite n.1 (Z (H (16,a.1.a_,n.2)) λo=>F (λp=>f (y p)) (λp=>f (M (y (p.2.1,q8.mk p.1.1 p.1.2.1 p.1.2.2.1 p.1.2.2.2 p.2.2)))) o) (Z (B (lit [114,101,116,117,114,110],n.2)) λp=>Z (ite p.1 (Z (J (lit [59],p.2)) λr=>Z (ite (!r.1) (Z (K r.2) λs=>F (λt=>f (y t)) (λt=>f (M (t.2,(0,lit [],0,0),(17,lit [],0,a.1.a_),O [ke t.1] g))) s) (f (M (r.2,(0,lit [],0,0),(17,lit [],0,a.1.a_),O [] N)))) λ(s:zcJ)=>F (λt=>f (y t)) (λt=>Z (E (q8.mk t.2.2.1.1 t.2.2.1.2.1 t.2.2.1.2.2.1 t.2.2.1.2.2.2 t.2.2.2,t.1)) λu=>F (λv=>f (y v)) (λv=>f (M (y (v.2,ke v.1)))) u) s) (Z (B (lit [97,98,111,114,116],p.2)) λt=>Z (ite t.1 (Z (E (q8.mk 18 (lit []) 0 a.1.a_ (O [] N),t.2)) λu=>F (λv=>f (y v)) (λv=>f (M (y (v.2,ke v.1)))) u) (Z (B (lit [102,111,114,107],t.2)) λv=>Z (ite v.1 (Z (C v.2) λw=>F (λz=>f (y z)) (λz=>Z (L z.2) λQ=>F (λR=>f (y R)) (λR=>Z (D (q8.mk 19 z.1.2.1 z.1.2.2.1 z.1.2.2.2 R.2,a.1.a_)) λS=>Z (E (ke S.1,R.1)) λT=>F (λU=>f (y U)) (λU=>f (M (y (U.2,ke U.1)))) T) Q) w) (f (M (M (v.2,0,lit [],0,0))))) λ(w:zaF)=>F (λz=>f (y z)) (λz=>F (λQ=>f (M (y (Q.1,ke Q.2)))) (λQ=>f (M (M Q))) z) w)) λ(u:zaF)=>F (λv=>f (y v)) (λv=>F (λw=>f (M (y (w.1,ke w.2)))) (λw=>f (M (M w))) v) u)) λ(r:zaF)=>F (λs=>f (y s)) (λs=>F (λt=>f (M (y (t.1,ke t.2)))) (λt=>f (M (M t))) s) r)) λ(o:zaF)=>F (λp=>f (y p)) (λp=>F (λr=>f (M (y (r.1,ke r.2)))) (λr=>f (M (M r))) p) o)) λ(m:zaF)=>F (λn=>f (y n)) (λn=>F (λo=>f (M (y (o.1,ke o.2)))) (λo=>f (M (M o))) n) m)) λ(j:zaF)=>F (λl=>f (y l)) (λl=>F (λm=>f (M (y (m.1,ke m.2)))) (λm=>f (M (M m))) l) j)) λ(e:zaF)=>F (λi=>f (y i)) (λi=>F (λj=>f (M (y (j.1,ke j.2)))) (λj=>f (M (M j))) i) e)) λ(c:zaF)=>F (λd=>f (y d)) (λd=>F (λe=>f (M (ke e.2,e.1))) (λe=>Z (Z (C e.1) λi=>F (λj=>f (y j)) (λj=>Z (P (q8.mk j.1.1 j.1.2.1 j.1.2.2.1 j.1.2.2.2 (O [] N),j.2)) λl=>F (λm=>f (y m)) (λm=>Z (E (q8.mk m.1.1 m.1.2.1 m.1.2.2.1 m.1.2.2.2 m.2.2,m.2.1)) λn=>F (λo=>f (y o)) (λo=>f (M (o.2,ke o.1))) n) l) i) λ(i:zjQ)=>F (λj=>f (y j)) (λj=>f (M (ke j.2,j.1))) i) d) c
def q44(h:ZR):Y4:=qaf q14 q11 q1d q8s q7a qc2 (q4a h) h q2k q2s q6b q9o
theorem qg2(h:ZR):@Eq Y4 (zk5 h) (q44 h):=by delta q44;rw[q2u,q1i,q37,qi1,qik,qkn,<-qex h,q7s,q84,qdx,qil];kernel_rfl
def qf3(A:xp)(B:Zx)(C:zaL)(D:Xs)(E:Zx)(G:Y4):xi->Uv (Step xi zcJ):=λa=>Z (E (lit [125],a.1)) λb=>ite (!b.1) (Z (G b.2) λc=>F (λd=>f (Step.done (y d))) (λd=>Z (zo 64 a.2.2.2 [ke d.1]) λe=>f (Step.next (d.2,a.2.1,a.2.2.1,e))) c) (f (Step.done (M (b.2,a.2))))
def q96(A:xp)(B:Zx)(C:zaL)(D:Xs)(E:Zx)(G:Y4)(x:q7):Uv Zk:=Z (A x) λa=>Z (Z (B (lit [123],a.2)) λb=>ite b.1 (f (q (8<=b.2.D_),b.2,(0,lit [],0,0),9,lit [],0,a.1.a_)) (f (N,b.2,(0,lit [],0,0),9,lit [],0,a.1.a_))) λb=>ite b.1 (Z (C (21,b.2.1)) λc=>f (y c)) (Z (D (lit [123],b.2.1)) λd=>F (λe=>f (y e)) (λe=>Z (lpO (qf3 A B C D E G) (q7.mk e.Z_ (Uw (e.D_+1)),b.2.2.1,b.2.2.2,O [] N)) λi=>F (λj=>f (y j)) (λj=>f (M (j.2.2.1,q7.mk j.1.Z_ (Uw (j.1.D_ - 1)),j.2.2.2))) i) d)
def q97(h:ZR):ZR:=q96 q14 q2k q1y q19 q11 (q44 h)
theorem qi2(h:ZR):@Eq ZR (zoK h) (q97 h):=by delta q97;rw[q2u,q7s,q6n,q2f,q1i,<-qg2 h];kernel_rfl
def q3u:Nat->q7->Uv Zk
 |0=>λ_=>Y
 |k+1=>q97 (q3u k)
theorem q98:∀k,@Eq ZR (zfE k) (q3u k)
 |0=>rfl
 |k+1=>(qi2 (zfE k)).trans (congrArg q97 (q98 k))
def qd9:ZR:=q3u 100000
theorem qim:@Eq ZR F40 qd9:=q98 100000
def qgy(A:wG)(B:Xs)(C:Zx)(D:Y3)(E:Zx)(G:zaL)(H:zjw)(I:xp)(J:ZR)(x:Ul):Uv Zk:=Z (A x.2) λa=>F (λb=>f (y b)) (λb=>Z (B (lit [40],b.2)) λc=>F (λd=>f (y d)) (λd=>Z (C (lit [41],d)) λe=>Z (ite (!e.1) (Z (D e.2) λi=>F (λj=>f (y j)) (λj=>f (M (j.1,(0,lit [],0,0),(6,b.1.2.1,b.1.2.2.1,x.1),j.2))) i) (f (M (e.2,(0,lit [],0,0),(6,b.1.2.1,b.1.2.2.1,x.1),O [] N)))) λ(i:zcJ)=>F (λj=>f (y j)) (λj=>Z (B (lit [41],j.1)) λl=>F (λm=>f (y m)) (λm=>Z (E (lit [45,62],m)) λn=>Z (ite n.1 (Z (C (lit [38],n.2)) λo=>ite o.1 (Z (G (20,o.2)) λp=>f (y p)) (Z (H o.2) λr=>F (λs=>f (M (s.2,j.2.1,j.2.2.1,ke s.1,j.2.2.2))) (λs=>f (y s)) r)) (Z (I n.2) λs=>f (M (s.2,j.2.1,j.2.2.1,q8.mk 8 (lit []) 0 s.1.a_ (O [] N),j.2.2.2)))) λ(o:zA×q7⊕q7×(Int×Ut×Int×Int)×(Int×Ut×Int×Int)×q8×Sl q8)=>F (λp=>f (y p)) (λp=>Z (J p.1) λr=>F (λs=>f (y s)) (λs=>Z (zo 64 p.2.2.2.2 [ke p.2.2.2.1,q8.mk s.1.1 s.1.2.1 s.1.2.2.1 s.1.2.2.2 s.2.2]) λt=>f (M (p.2.2.1,s.2.1,t))) r) o) l) i) c) a
def qc3:Ul->Uv Zk:=qgy q1d q19 q2k qal q11 q1y qat q14 qd9
theorem qko:qc3=P41.F:=by delta qc3;rw[q37,q2f,q7s,qhd,q1i,q6n,qgj,q2u,<-qim];kernel_rfl
def qg3(A:xp)(B:Zx)(C:wG)(D:zaL)(x:q7):Uv zvA:=Z (A x) λa=>Z (A a.2) λb=>Z (B (lit [111,119,110],b.2)) λc=>Z (ite c.1 (f (c.1,c.2,(0,lit [],0,0),2,a.1.T_,0,b.1.a_)) (Z (B (lit [99,101,108,108],c.2)) λd=>f (d.1,d.2,(0,lit [],0,0),2,a.1.T_,0,b.1.a_))) λ(d:zjl)=>Z (ite d.1 (f (y (d.2.1,d.2.2.1,d.2.2.2,O [] N))) (Z (B (lit [99,111,117,110,116,101,100],d.2.1)) λe=>Z (ite e.1 (f (e.1,e.2,d.2.2)) (Z (B (lit [108,111,99,107],e.2)) λi=>Z (ite i.1 (f (i.1,i.2,d.2.2)) (Z (B (lit [103,117,97,114,100],i.2)) λj=>f (j.1,j.2,d.2.2))) λ(j:zjl)=>f j)) λ(i:zjl)=>Z (ite i.1 (Z (C i.2.1) λj=>F (λl=>f (y l)) (λl=>f (M (l.2,i.2.2.1,i.2.2.2,O [q8.mk l.1.1 l.1.2.1 l.1.2.2.1 l.1.2.2.2 (O [] N)] g))) j) (Z (D (20,i.2.1)) λl=>f (y l))) λ(j:zcJ)=>F (λl=>f (M l)) (λl=>f (y l)) j)) λ(e:q7×(Int×Ut×Int×Int)×(Int×Ut×Int×Int)×Sl q8⊕zA×q7)=>F (λi=>f (y (i.2.2.1,i.1,i.2.2.2))) (λi=>f (M i)) e
def qdm:zpS:=qg3 q14 q11 q1d q1y
theorem qje:qdm=P42.F:=by delta qdm;rw[q2u,q1i,q37,q6n];kernel_rfl
def qf8(A:wG)(B:Zx)(C:Xs)(x:q7):Uv Zk:=Z (A x) λa=>F (λb=>f (y b)) (λb=>Z (B (lit [91],b.2)) λc=>Z (ite c.1 (Z (A c.2) λd=>F (λe=>f (y e)) (λe=>Z (C (lit [93],e.2)) λi=>F (λj=>f (y j)) (λj=>f (M (j,(0,lit [],0,0),(3,b.1.2),O [q8.mk e.1.1 e.1.2.1 e.1.2.2.1 e.1.2.2.2 (O [] N)] g))) i) d) (f (M (c.2,(0,lit [],0,0),(3,b.1.2),O [] N)))) λ(d:zcJ)=>F (λe=>f (y e)) (λe=>f (M (e.2.2.1,e.1,e.2.2.2))) d) a
def q9m:ZR:=qf8 q1d q11 q19
theorem qin:q9m=P43.F:=by delta q9m;rw[q37,q1i,q2f];kernel_rfl
def q9d(A:ZR)(B:Zx):yw->Uv (Step yw yX):=λa=>Z (B (lit [44],a.1)) λb=>ite b.1 (Z (A b.2) λc=>F (λd=>f (Step.done (y d))) (λd=>Z (zo 64 a.2 [q8.mk d.1.1 d.1.2.1 d.1.2.2.1 d.1.2.2.2 d.2.2]) λe=>f (Step.next (d.2.1,e))) c) (f (Step.done (M (b.2,a.2))))
def qdj(A:ZR)(B:Zx)(x:q7):Uv yX:=Z (A x) λa=>F (λb=>f (y b)) (λb=>Z (lpO (q9d A B) (b.2.1,O [q8.mk b.1.1 b.1.2.1 b.1.2.2.1 b.1.2.2.2 b.2.2] g)) λc=>F (λd=>f (y d)) (λd=>f (M d)) c) a
def qak:Y3:=qdj q9m q11
theorem qhe:qak=P44.F:=by delta qak;rw[qin,q1i];kernel_rfl
def qaj(A:ZR)(B:Zx):yw->Uv (Step yw yX):=λa=>Z (B (lit [44],a.1)) λb=>ite b.1 (Z (A b.2) λc=>F (λd=>f (Step.done (y d))) (λd=>Z (zo 64 a.2 [q8.mk d.1.1 d.1.2.1 d.1.2.2.1 d.1.2.2.2 d.2.2]) λe=>f (Step.next (d.2.1,e))) c) (f (Step.done (M (b.2,a.2))))
def qe5(A:ZR)(B:Zx)(x:q7):Uv yX:=Z (A x) λa=>F (λb=>f (y b)) (λb=>Z (lpO (qaj A B) (b.2.1,O [q8.mk b.1.1 b.1.2.1 b.1.2.2.1 b.1.2.2.2 b.2.2] g)) λc=>F (λd=>f (y d)) (λd=>f (M d)) c) a
def qas:Y3:=qe5 q58 q11
theorem qhl:qas=P45.F:=by delta qas;rw[qgm,q1i];kernel_rfl
def qgn(A:wG)(B:zpS)(C:Zx)(D:Y3)(E:Xs)(G:Y3)(x:Ul):Uv Zk:=Z (A x.2) λa=>F (λb=>f (y b)) (λb=>Z (B b.2) λc=>F (λd=>Z (C (lit [123],d.2.1)) λe=>Z (ite e.1 (Z (D e.2) λi=>F (λj=>f (y j)) (λj=>Z (zo 64 (O [q8.mk d.1.1 d.1.2.1 d.1.2.2.1 d.1.2.2.2 d.2.2] g) j.2.xs) λl=>Z (E (lit [125],j.1)) λm=>F (λn=>f (y n)) (λn=>f (M (n,(0,lit [],0,0),(1,b.1.2.1,b.1.2.2.1,x.1),l))) m) i) (f (M (e.2,(0,lit [],0,0),(1,b.1.2.1,b.1.2.2.1,x.1),O [q8.mk d.1.1 d.1.2.1 d.1.2.2.1 d.1.2.2.2 d.2.2] g)))) λ(i:zcJ)=>F (λj=>f (y j)) (λj=>Z (C (lit [119,104,101,114,101],j.1)) λl=>Z (ite l.1 (Z (G l.2) λm=>F (λn=>f (y n)) (λn=>Z (zo 64 j.2.2.2 n.2.xs) λo=>f (M (n.1,j.2.1,j.2.2.1,o))) m) (f (M (l.2,j.2)))) λ(m:zcJ)=>F (λn=>f (y n)) (λn=>Z (E (lit [59],n.1)) λo=>F (λp=>f (y p)) (λp=>f (M (n.2.2.1,p,n.2.2.2))) o) m) i) (λd=>f (y d)) c) a
def qbg:Ul->Uv Zk:=qgn q1d qdm q11 qak q19 qas
theorem qk3:qbg=P46.F:=by delta qbg;rw[q37,qje,q1i,qhe,q2f,qhl];kernel_rfl
def qda(A:wa):Int×Ua×zA->Uv (Step (Int×Ua×zA) Int):=λ(a,b,c,d)=>ite (q (d < c)) (Z (za b d) λe=>Z (A (ke e)) λi=>f (Step.next (Uw (a+i),b,c,Uw (d+1)))) (f (Step.done a))
def qet(A:wa)(x:q8):GV:=Z (lpO (qda A) (1,x.K_,x.K_.len,0)) λa=>f a
def qeu(h:wa):wa:=qet h
theorem qlk(h:wa):@Eq wa (zoM h) (qeu h):=jO
def q6c:Nat->q8->Uv Int
 |0=>λ_=>Y
 |k+1=>qeu (q6c k)
theorem qio:∀k,@Eq wa (zk6 k) (q6c k)
 |0=>rfl
 |k+1=>(qlk (zk6 k)).trans (congrArg qeu (qio k))
def qfh:wa:=q6c 100000
theorem qll:@Eq wa F47 qfh:=qio 100000
def qg4(x:zaE):Uv xj:=f ((0,lit [],0,0),x.1.1,x.1.2,x.2.2.2.2)
def qdo:zaE->Uv xj:=qg4
theorem qjf:@Eq ((zaE)->Uv xj) F48 qdo:=jO
def qey(x:xj):Uv xj:=f x
def qcm:xj->Uv xj:=qey
theorem qi4:@Eq ((xj)->Uv xj) F49 qcm:=jO
def q6q(A:zjz)(B:xp)(C:Zx)(D:zpQ)(E:Xs)(G:zpQ)(H:zzw)(I:wa)(J:zzz):zeC->Uv (Step zeC zzx):=λ(a,b,c,d,e)=>Z (B d) λ(i,j)=>ite (q (i.k_≠0)) (Z (Z (B j) λ(l,m)=>Z (C (lit [102,110],m)) λ(n,o)=>ite n (Z (Z (D (l.a_,o)) λp=>F (λ(r,_)=>f (y (r,a,b,c,e))) (λ(r,s,t)=>Z (zo 64 e [q8.mk 0 (lit []) 0 0 (O [] N)]) λu=>Z (za u (Sl.len e)) λv=>Yf (Z (za u (Sl.len e)) λw=>f (M (a,b,c,s,u.set (Sl.len e) (q8.mk r.1 r.2.1 r.2.2.1 r.2.2.2 t)))) (Z (za u (Sl.len e)) λw=>f (M (a,b,c,s,u.set (Sl.len e) (q8.mk r.1 r.2.1 r.2.2.1 r.2.2.2 t))))) p) λp=>F (λr=>f (y r)) (λr=>f (M r)) p) (Z (E (lit [116,121,112,101],o)) λr=>F (λ(s,_)=>f (y (s,a,b,c,e))) (λs=>Z (Z (G (l.a_,s)) λt=>F (λ(u,_)=>f (y (u,a,b,c,e))) (λ(u,v,w)=>Z (zo 64 e [q8.mk 0 (lit []) 0 0 (O [] N)]) λz=>Z (za z (Sl.len e)) λK=>Yf (Z (za z (Sl.len e)) λL=>f (M (a,b,c,v,z.set (Sl.len e) (q8.mk u.1 u.2.1 u.2.2.1 u.2.2.2 w)))) (Z (za z (Sl.len e)) λL=>f (M (a,b,c,v,z.set (Sl.len e) (q8.mk u.1 u.2.1 u.2.2.1 u.2.2.2 w))))) t) λt=>F (λu=>f (y u)) (λu=>f (M u)) t) r)) λl=>F (λm=>f (Step.done (y m))) (λm=>f (Step.next m)) l) (f (Step.done (M (a,b,c,e))))
def qhy(A:zjz)(B:xp)(C:Zx)(D:zpQ)(E:Xs)(G:zpQ)(H:zzw)(I:wa)(J:zzz)(x:Zs):Uv (q8×zA):=Z (A x) λ(a,b,c)=>ite (q (b≠0)) (f (q8.mk 0 (lit []) 0 0 (O [] N),a,b)) (Z (lpO (q6q A B C D E G H I J) ((0,lit [],0,0),a,b,q7.mk c 0,O [] N)) λd=>F (λe=>Z (H e) λ(i,j,l,_)=>f (q8.mk i.1 i.2.1 i.2.2.1 i.2.2.2 (O [] N),j,l)) (λ(e,_,_,i)=>Z (I (q8.mk e.1 e.2.1 e.2.2.1 e.2.2.2 i)) λj=>ite (q (4096 < j)) (Z (J ((0,lit [],0,0),0,22,O [] N)) λ(l,m,n,o)=>f (q8.mk l.1 l.2.1 l.2.2.1 l.2.2.2 o,m,n)) (Z (J (e,0,0,i)) λ(p,r,s,t)=>f (q8.mk p.1 p.2.1 p.2.2.1 p.2.2.2 t,r,s))) d)
def q6d:zeK:=qhy qd7 q14 q11 qc3 q19 qbg qdo qfh qcm
theorem qip:@Eq zeK F50 q6d:=by delta q6d;rw[qlu,q2u,q1i,qko,q2f,qk3,<-qjf,<-qll,<-qi4];kernel_rfl
def q8q:zg8->Uv (Step zg8 zj1):=λa=>ite (q (a.2.2.1 < a.2.1)) (Z (za a.1 a.2.2.1) λb=>Z (ite (q (b.k_=3)) (Z (zo 64 a.2.2.2.1 [ke b]) λc=>f (a.1,a.2.1,a.2.2.1,c,a.2.2.2.2)) (Z (ite (q (b.k_=4)) (Z (zo 64 a.2.2.2.2 [ke b]) λd=>f (a.1,a.2.1,a.2.2.1,a.2.2.2.1,d)) (f a)) λd=>f d)) λ(c,d,e,i,j)=>f (Step.next (c,d,Uw (e+1),(i,j)))) (f (Step.done a.2.2.2))
def qgz(x:q8):Uv zj1:=Z (lpO q8q (x.K_,x.K_.len,0,O [] N,O [] N)) λa=>f a
def qan:zeO:=qgz
theorem qlm:qan=P51.F:=jO
def qdd(x:zjY):Uv Z6:=f (q (x.1.N_=x.2),x.2)
def q80:zjY->Uv Z6:=qdd
theorem qjg:q80=P52.F:=jO
def qgv(A:zvQ):Uf×Int×yB->Uv (Step (Uf×Int×yB) zaP):=λ(a,b,c,d)=>ite (q (c < b)) (Z (za a c) λe=>Z (A (e,d)) λ(i,j)=>ite i (f (Step.done (y (c,j)))) (f (Step.next (a,b,Uw (c+1),j)))) (f (Step.done (M d)))
def qe9(A:zvQ)(x:zcT):Uv yB:=Z (lpO (qgv A) (x.1,Sl.len x.1,0,x.2)) λa=>F (λb=>f b) (λb=>f (-1,b)) a
def qcg:zcT->Uv yB:=qe9 q80
theorem qkp:qcg=P53.F:=by delta qcg;rw[qjg];kernel_rfl
def qea(A:zcT->Uv yB)(x:zcT):GV:=Z (A x) λ(a,_)=>f a
def q2l:zcT->GV:=qea qcg
theorem qci:q2l=P54.F:=by delta q2l;rw[qkp];kernel_rfl
def qhb(x:zjW):Uv Yp:=ite (!x.1) (f (y (x.2.1.a_,x.2.2))) (f (M ()))
def q72:zjW->Uv Yp:=qhb
theorem qhs:q72=P55.F:=jO
def qfm(x:zaT):Uv Z6:=f (q (x.1.T_=x.2),x.2)
def qc4:zaT->Uv Z6:=qfm
theorem qli:qc4=P56.F:=jO
def qfq(A:zjt):Ua×Int×yB->Uv (Step (Ua×Int×yB) zaP):=λ(a,b,c,d)=>ite (q (c < b)) (Z (za a c) λe=>Z (A (ke e,d)) λ(i,j)=>ite i (f (Step.done (y (c,j)))) (f (Step.next (a,b,Uw (c+1),j)))) (f (Step.done (M d)))
def qde(A:zjt)(x:X9):Uv yB:=Z (lpO (qfq A) (x.1,Sl.len x.1,0,x.2)) λa=>F (λb=>f b) (λb=>f (-1,b)) a
def qb7:X9->Uv yB:=qde qc4
theorem qjh:qb7=P57.F:=by delta qb7;rw[qli];kernel_rfl
def qbw(A:zvN)(x:X9):Uv Z6:=Z (A x) λ(a,b)=>f (q (0<=a),b)
def q94:X9->Uv Z6:=qbw qb7
theorem qi5:q94=P58.F:=by delta q94;rw[qjh];kernel_rfl
def qh0(A:X9->Uv Z6)(x:X9):Ud:=Z (A x) λ(a,_)=>f a
def qam:X9->Ud:=qh0 q94
theorem qln:qam=P59.F:=by delta qam;rw[qi5];kernel_rfl
def q8u(x:zaT):Uv Z6:=Z (ite (q (x.1.T_=x.2)) (f (q (x.1.K_.len=0),x.2)) (f (N,x.2))) λa=>f a
def q5y:zaT->Uv Z6:=q8u
theorem qiq:q5y=P60.F:=jO
def qf4(A:zjt):Ua×Int×yB->Uv (Step (Ua×Int×yB) zaP):=λ(a,b,c,d)=>ite (q (c < b)) (Z (za a c) λe=>Z (A (ke e,d)) λ(i,j)=>ite i (f (Step.done (y (c,j)))) (f (Step.next (a,b,Uw (c+1),j)))) (f (Step.done (M d)))
def qcr(A:zjt)(x:X9):Uv yB:=Z (lpO (qf4 A) (x.1,Sl.len x.1,0,x.2)) λa=>F (λb=>f b) (λb=>f (-1,b)) a
def qae:X9->Uv yB:=qcr q5y
theorem qir:qae=P61.F:=by delta qae;rw[qiq];kernel_rfl
def qds(A:zvN)(x:zql):GV:=Z (A (x.2.2,x.2.1)) λ(a,_)=>f a
def q3f:zql->GV:=qds qae
theorem qed:q3f=P62.F:=by delta q3f;rw[qir];kernel_rfl
def q1q:zcW×zr->Uv (Step (zcW×zr) zeW):=λ(a,b,c,d)=>ite (q (d < c)) (Z (za a d) λe=>ite (q (b=e)) (f (Step.done (y d))) (f (Step.next (a,b,c,Uw (d+1))))) (f (Step.done (M ())))
def q8b(x:zjR):GV:=Z (lpO q1q (x.1,x.2,Sl.len x.1,0)) λa=>F (λb=>f b) (λb=>f (-1)) a
def q2y:zjR->GV:=q8b
theorem qdh:q2y=P63.F:=jO
def qbj(A:zvY)(B:zeJ)(C:zeF)(D:zcQ)(x:zpV):Uv za8:=Z (A (O [lit [111,119,110],lit [99,101,108,108],lit [99,111,117,110,116,101,100],lit [108,111,99,107],lit [103,117,97,114,100]] g,x.2.1.T_)) λa=>Z (ite (q (a=2)) (f (x.1,x.2.2.1,x.2.2.2.1,a,q (a=2),(x.2.2.2.2.1.1,a,x.2.2.2.2.1.2.2),x.2.2.2.2.2.1,x.2.2.2.2.2.2,ke x.2.1)) (f (x.1,x.2.2.1,x.2.2.2.1,a,q (a=3),(x.2.2.2.2.1.1,a,x.2.2.2.2.1.2.2),x.2.2.2.2.2.1,x.2.2.2.2.2.2,ke x.2.1))) λ(b,c,d,e,i,j,l,m,n)=>Z (ite i (Z (za n.K_ 0) λo=>Z (B (qa.mk j.1 j.2.1 j.2.2 l m,o.T_,c)) λp=>Z (C (q (0<=p),ke n,32)) λr=>F (λs=>f (y (s,(j.1,j.2.1,p),l,m))) (λs=>f (M ((j.1,j.2.1,p),l,m))) r) (Z (ite (q (e=4)) (Z (za n.K_ 0) λs=>Z (D (b,s.T_)) λt=>Z (ite (q (0<=t)) (Z (za b t) λu=>Z (C (q (u.S_=3),ke n,31)) λv=>F (λw=>f (y (w,(j.1,j.2.1,t),l,m))) (λw=>f (M (c,d,(j.1,j.2.1,t),l,m,ke n))) v) (Z (C (N,ke n,31)) λw=>F (λz=>f (y (z,(j.1,j.2.1,t),l,m))) (λz=>f (M (c,d,(j.1,j.2.1,t),l,m,ke n))) w)) λu=>F (λv=>f (y v)) (λ(v,w,z,E,G,H)=>Z (C (q (Uw (Sl.len v+Sl.len w)=0),ke H,32)) λI=>F (λJ=>f (y (J,z,E,G))) (λJ=>f (M (z,E,G))) I) u) (f (M (j,l,m)))) λs=>F (λt=>f (y t)) (λt=>f (M t)) s)) λo=>F (λp=>f (y p)) (λp=>f (M p)) o
def q52:zpV->Uv za8:=qbj q2y q3f q72 q2l
theorem qkq:q52=P64.F:=by delta q52;rw[qdh,qed,qhs,qci];kernel_rfl
def qep(x:zaM):Uv (Sl qw):=Z (ite (q (x.1=lit [60])) (f (y (O [qw.mk x.2.1 x.2.2.1 (Uw (Uw (x.2.2.2.2 - x.2.2.2.1) - 1))] g))) (Z (ite (q (x.1=lit [60,61])) (f (y (O [qw.mk x.2.1 x.2.2.1 (Uw (x.2.2.2.2 - x.2.2.2.1))] g))) (ite (q (x.1=lit [61,61])) (f (y (O [qw.mk x.2.1 x.2.2.1 (Uw (x.2.2.2.2 - x.2.2.2.1)),qw.mk x.2.2.1 x.2.1 (Uw (x.2.2.2.1 - x.2.2.2.2))] g))) (f (M ())))) λa=>F (λb=>f (y b)) (λb=>f (M ())) a)) λa=>F (λb=>f b) (λb=>f (O [] N)) a
def qao:zaM->Uv (Sl qw):=qep
theorem qlo:qao=P65.F:=jO
def q9f(A:zeJ)(B:zeF)(C:zvG):Ua×Ua×Int×Int×zr×Sl qt×Sl qw×q8×zA->Uv (Step (Ua×Ua×Int×Int×zr×Sl qt×Sl qw×q8×zA) zzy):=λ(a,b,c,d,e,i,j,l,m,n)=>ite (q (d < c)) (Z (Z (za b d) λo=>ite (q (o.T_=lit [])) (f (y (a,b,c,d,e,i,j,ke l,(m,n)))) (Z (A (qa.mk e.1 e.2.1 e.2.2 i j,o.T_,a)) λp=>Z (ite (q (0<=p)) (ite (q (e.2.1=2)) (Z (B (!q (p=e.2.2),ke l,33)) λr=>F (λs=>f (y (s,e,i,j))) (λs=>f (M (a,d,p,b,c,d,e,i,j,ke l,(m,n)))) r) (ite (q (e.2.1=3)) (Z (B (!q (p=e.2.2),ke l,33)) λs=>F (λt=>f (y (t,e,i,j))) (λt=>f (M (a,d,p,b,c,d,e,i,j,ke l,(m,n)))) s) (Z (B (!N,ke l,33)) λt=>F (λu=>f (y (u,e,i,j))) (λu=>f (M (a,d,p,b,c,d,e,i,j,ke l,(m,n)))) t))) (Z (B (N,ke l,33)) λu=>F (λv=>f (y (v,e,i,j))) (λv=>f (M (a,d,p,b,c,d,e,i,j,ke l,(m,n)))) u)) λr=>F (λs=>f (M s)) (λ(s,t,u,v,w,z,D,E,G,H,I,J)=>Z (bif q (t=1) then f (s,v,w,z,D,E,G,ke H,I,Uw (u+1)) else bif q (t=0) then f (s,v,w,z,D,E,G,ke H,Uw (u+1),J) else Y) λ(K,L,P,Q,R,S,T,U,W,X)=>f (y (K,L,P,Q,R,S,T,ke U,(W,X)))) r)) λo=>F (λ(p,r,s,t,u,v,w,z,D,E)=>f (Step.next (p,r,s,Uw (t+1),u,v,w,ke z,(D,E)))) (λp=>f (Step.done (y p))) o) (f (Step.done (M (e,i,j,ke l,(m,n)))))
def qc5(A:zeJ)(B:zeF)(C:zvG)(x:zp0):Uv za8:=Z (lpO (q9f A B C) (x.2.1,x.1.K_,x.1.K_.len,0,x.2.2.1,x.2.2.2.1,x.2.2.2.2,ke x.1,0,0)) λa=>F (λb=>f (y b)) (λ(b,c,d,e,i,j)=>Z (za e.K_ 0) λl=>Z (za e.K_ 1) λm=>Z (C (e.T_,i,j,l.n_,m.n_)) λn=>Z (zo 24 d n.xs) λo=>f (M (b,c,o))) a
def q5r:zp0->Uv za8:=qc5 q3f q72 qao
theorem ql2:q5r=P66.F:=by delta q5r;rw[qed,qhs,qlo];kernel_rfl
def q9g(A:zeO)(B:zcQ)(C:zeF)(D:zqh)(E:zeJ)(G:tA2)(H:tA9):Uf×Ua×Ua×Int×Int×q8×zr×Ua×zr×Sl qt->Uv (Step (Uf×Ua×Ua×Int×Int×q8×zr×Ua×zr×Sl qt) zzD):=λ(a,b,c,d,e,i,j,l,m,n)=>ite (q (e < d)) (Z (Z (za c e) λo=>Z (z8 b 0 e) λp=>Z (D (p,o.T_)) λr=>Z (C (!r,ke o,30)) λs=>F (λt=>f (y t)) (λt=>Z (ite (q (0 < o.K_.len)) (Z (za o.K_ 0) λu=>Z (E (qa.mk m.1 m.2.1 m.2.2 n (O [] N),u.T_,b)) λv=>Z (Z (za i.K_ 0) λw=>ite (q (w.T_=lit [111,119,110])) (Z (C (q (0<=v),ke o,32)) λz=>F (λI=>f (y I)) (λI=>f (M (a,b,v,c,d,e,ke i,j,l,m,ke o,n))) z) (Z (C (N,ke o,32)) λI=>F (λJ=>f (y J)) (λJ=>f (M (a,b,v,c,d,e,ke i,j,l,m,ke o,n))) I)) λw=>F (λz=>f (y z)) (λ(z,I,J,K,L,P,Q,R,S,T,U,W)=>f (M (z,I,J,K,L,P,ke Q,R,S,T,ke U,W))) w) (f (M (a,b, -1,c,d,e,ke i,j,l,m,ke o,n)))) λu=>F (λv=>f (y v)) (λ(v,w,z,I,J,K,L,P,Q,R,S,T)=>Z (zo 24 T [qt.mk S.T_ z]) λU=>f (M (v,w,I,J,K,ke L,P,Q,R,U))) u) s) λo=>F (λp=>f (Step.done (y p))) (λ(p,r,s,t,u,v,w,z,I,J)=>f (Step.next (p,r,s,t,Uw (u+1),ke v,(w,z,I,J)))) o) (f (Step.done (M (a,b,ke i,(j,l,m,n)))))
def q9h(A:zeO)(B:zcQ)(C:zeF)(D:zqh)(E:zeJ)(G:tA2)(H:tA9):Ua×Ua×Int×Int×zr×zr×Sl qt×Sl qw->Uv (Step (Ua×Ua×Int×Int×zr×zr×Sl qt×Sl qw) zvs):=λ(a,b,c,d,e,i,j,l)=>ite (q (d < c)) (Z (za b d) λm=>Z (H (ke m,a,(i,j,l))) λn=>F (λ(o,_,_,_)=>f (Step.done (y o))) (λo=>f (Step.next (a,b,c,Uw (d+1),e,o))) n) (f (Step.done (M (e,i,j,l))))
def qc6(A:zeO)(B:zcQ)(C:zeF)(D:zqh)(E:zeJ)(G:tA2)(H:tA9)(x:Uf×q8):Uv zg5:=Z (A (ke x.2)) λ(a,b)=>Z (B (x.1,x.2.T_)) λc=>Z (C (q (c < 0),ke x.2,30)) λd=>F (λe=>f (y e)) (λe=>Z (C (q (Sl.len a<=8),ke x.2,22)) λi=>F (λj=>f (y j)) (λj=>Z (lpO (q9g A B C D E G H) (x.1,a,a,Sl.len a,0,ke x.2,(lit [],0,0),b,(x.2.T_,0,0),O [] N)) λl=>F (λm=>f (y m)) (λ(m,n,o,p,r,s,t)=>Z (za o.K_ 0) λu=>Z (G (m,ke u,n,r,s,t,O [] N)) λv=>F (λ(w,_,_,_)=>f (y w)) (λw=>Z (lpO (q9h A B C D E G H) (n,r,Sl.len r,0,p,w)) λz=>F (λI=>f (y I)) (λ(_,I,J,K)=>f (M (I,J,K))) z) v) l) i) d
def q6p:Uf×q8->Uv zg5:=qc6 qan q2l q72 qam q3f q52 q5r
theorem ql3:q6p=P67.F:=by delta q6p;rw[qlm,qci,qhs,qln,qed,qkq,ql2];kernel_rfl
def qdt(x:zjH):Uv xq:=f (x.1.1,x.1.2,x.2.2.2)
def q8m:zjH->Uv xq:=qdt
theorem qk4:@Eq ((zjH)->Uv xq) F68 q8m:=jO
def qcs(x:xq):Uv xq:=f x
def q7g:xq->Uv xq:=qcs
theorem qis:@Eq ((xq)->Uv xq) F69 q7g:=jO
def qdb(A:zvu)(B:zvC)(C:zvM):Ua×Int×Int×q8×xq->Uv (Step (Ua×Int×Int×q8×xq) zvB):=λ(a,b,c,d,e,i,j)=>ite (q (c < b)) (Z (za a c) λl=>Z (ite (q (l.k_=1)) (Z (Yf (Z (A (j,ke l)) λm=>F (λn=>f (y (n,ke d,(e,i,j)))) (λ(n,o,p)=>Z (zo 80 j [qa.mk n.1 n.2.1 n.2.2 o p]) λr=>f (M (a,b,c,ke d,e,i,r))) m) (Z (A (j,ke l)) λm=>F (λn=>f (y (n,ke d,(e,i,j)))) (λ(n,o,p)=>Yf (Z (zo 80 j [qa.mk n.1 n.2.1 n.2.2 o p]) λr=>f (M (a,b,c,ke d,e,i,r))) (Z (zo 80 j [qa.mk n.1 n.2.1 n.2.2 o p]) λr=>f (M (a,b,c,ke d,e,i,r)))) m)) λm=>F (λ(n,o,p,r,s)=>f (y (n,ke o,(p,r,s)))) (λ(n,o,p,r,s,t,u)=>f (M (n,o,p,ke r,(s,t,u)))) m) (f (M (a,b,c,ke d,(e,i,j))))) λm=>F (λ(n,o,p,r,s)=>f (Step.done (y (n,ke o,(p,r,s))))) (λ(n,o,p,r,s,t,u)=>f (Step.next (n,o,Uw (p+1),ke r,(s,t,u)))) m) (f (Step.done (M (ke d,(e,i,j)))))
def qeq(A:zvu)(B:zvC)(C:zvM)(x:q8):Uv xq:=Z (lpO (qdb A B C) (x.K_,x.K_.len,0,ke x,0,0,O [] N)) λa=>F (λ(b,_,c,d,e)=>Z (B (b,(c,d,e))) λ(i,j,_)=>f (i,j,O [] N)) (λ(_,_,_,b)=>Z (C (0,0,b)) λc=>f c) a
def q77:zjJ:=qeq q6p q8m q7g
theorem qlp:@Eq zjJ F70 q77:=by delta q77;rw[ql3,<-qk4,<-qis];kernel_rfl
def qge(A:zvY)(B:zcQ)(x:Vn):Uv (qh×Int):=Z (A (O [lit [],lit [105,110,116],lit [111,119,110],lit [38],lit [38,109,117,116]] g,x.1.T_)) λa=>Z (ite (q (0 < x.1.K_.len)) (Z (za x.1.K_ 0) λb=>Z (B (x.2,b.T_)) λc=>ite (q (c < 0)) (f (y (31,qh.mk (lit []) 0 0))) (f (M (qh.mk (lit []) 0 0,qh.mk (lit []) a c)))) (f (M (qh.mk (lit []) 0 0,qh.mk (lit []) a 0)))) λb=>F (λ(c,d)=>f (d,c)) (λ(_,c)=>f (c,0)) b
def qba:Vn->Uv (qh×Int):=qge q2y q2l
theorem qm1:qba=P71.F:=by delta qba;rw[qdh,qci];kernel_rfl
def qhc(x:qh×qh):Uv WG:=f (q (x.1.N_=x.2.N_),x.2)
def qbc:qh×qh->Uv WG:=qhc
theorem qlv:qbc=P72.F:=jO
def qc7(A:zjP):Int×vv->Uv (Step (Int×vv) zjN):=λ(a,b,c,d)=>ite (q (b < a)) (Z (za c b) λe=>Z (za c b) λi=>Z (A (i,d)) λ(j,l)=>ite j (f (Step.done (y (b,c,l)))) (f (Step.next (a,Uw (b+1),c,l)))) (f (Step.done (M (c,d))))
def qek(A:zjP)(x:Xu):Uv vv:=Z (lpO (qc7 A) (Sl.len x.1,0,x)) λa=>F (λb=>f b) (λb=>f (-1,b)) a
def qd4:Xu->Uv vv:=qek qbc
theorem ql4:qd4=P73.F:=by delta qd4;rw[qlv];kernel_rfl
def qdu(A:zvW)(x:Xu):Uv zaR:=Z (A x) λ(a,b,c)=>f (q (0<=a),(b,c))
def q5t:Xu->Uv zaR:=qdu qd4
theorem qk5:q5t=P74.F:=by delta q5t;rw[ql4];kernel_rfl
def qer(x:zeX):Ud:=Z (ite (q (1 < x.1.M_)) (Z (za x.2 x.1.t_) λa=>f (q (a.S_≠0))) (f N)) λa=>f a
def q89:zeX->Ud:=qer
theorem qlq:q89=P75.F:=jO
def qfi(x:qh×qh):Uv WG:=Z (ite (q (1 < x.1.M_)) (f (q (x.1.t_=x.2.t_),x.2)) (f (N,x.2))) λa=>f a
def q9i:qh×qh->Uv WG:=qfi
theorem qlw:q9i=P76.F:=jO
def qc8(A:zjP):Int×vv->Uv (Step (Int×vv) zjN):=λ(a,b,c,d)=>ite (q (b < a)) (Z (za c b) λe=>Z (za c b) λi=>Z (A (i,d)) λ(j,l)=>ite j (f (Step.done (y (b,c,l)))) (f (Step.next (a,Uw (b+1),c,l)))) (f (Step.done (M (c,d))))
def qel(A:zjP)(x:Xu):Uv vv:=Z (lpO (qc8 A) (Sl.len x.1,0,x)) λa=>F (λb=>f b) (λb=>f (-1,b)) a
def qd5:Xu->Uv vv:=qel q9i
theorem ql5:qd5=P77.F:=by delta qd5;rw[qlw];kernel_rfl
def qdv(A:zvW)(x:Xu):Uv zaR:=Z (A x) λ(a,b,c)=>f (q (0<=a),(b,c))
def q5u:Xu->Uv zaR:=qdv qd5
theorem qk6:q5u=P78.F:=by delta q5u;rw[ql5];kernel_rfl
def qe6(A:zv3)(B:zjy)(C:zeX->Ud)(D:zjy):zuP->Uv (Step zuP zzo):=λa=>ite (q (a.2.2.2.2.1 < a.2.2.2.1)) (Z (za a.2.2.1 a.2.2.2.2.1) λb=>Z (za b.K_ 0) λc=>Z (A (ke c,a.1)) λd=>Z (B (a.2.2.2.2.2.2.2.2,qh.mk b.T_ d.1.M_ d.1.t_)) λe=>Z (ite e.1 (f (y (b.a_,30,lit [],lit [],0,0))) (Z (ite (q (d.2≠0)) (Z (za b.K_ 0) λi=>f (y (i.a_,d.2,lit [],lit [],0,0))) (Z (Z (C (e.2.2,a.1)) λj=>ite j (Z (D e.2) λl=>f (a.1,a.2.1,a.2.2.1,a.2.2.2.1,a.2.2.2.2.1,l.1,ke a.2.2.2.2.2.1,a.2.2.2.2.2.2.1,a.2.2.2.2.2.2.2.1,ke b,l.2.2,l.2.1)) (f (a.1,a.2.1,a.2.2.1,a.2.2.2.1,a.2.2.2.2.1,N,ke a.2.2.2.2.2.1,a.2.2.2.2.2.2.1,a.2.2.2.2.2.2.2.1,ke b,e.2.2,e.2.1))) λj=>ite j.2.2.2.2.2.1 (Z (za j.2.2.2.2.2.2.2.2.2.1.K_ 0) λl=>f (y (l.a_,34,lit [],lit [],0,0))) (f (M (j.1,j.2.1,j.2.2.1,j.2.2.2.1,j.2.2.2.2.1,ke j.2.2.2.2.2.2.1,j.2.2.2.2.2.2.2.1,j.2.2.2.2.2.2.2.2.1,j.2.2.2.2.2.2.2.2.2.2))))) λi=>F (λj=>f (y j)) (λj=>f (M (j.1,j.2.1,j.2.2.1,j.2.2.2.1,j.2.2.2.2.1,ke j.2.2.2.2.2.1,j.2.2.2.2.2.2))) i)) λi=>F (λj=>f (Step.done (y j))) (λj=>Z (zo 32 j.2.2.2.2.2.2.2.2.2 [j.2.2.2.2.2.2.2.2.1]) λl=>f (Step.next (j.1,j.2.1,j.2.2.1,j.2.2.2.1,Uw (j.2.2.2.2.1+1),ke j.2.2.2.2.2.1,j.2.2.2.2.2.2.1,j.2.2.2.2.2.2.2.1,l))) i) (f (Step.done (M (a.1,a.2.1,ke a.2.2.2.2.2.1,a.2.2.2.2.2.2))))
def qh1(A:zv3)(B:zjy)(C:zeX->Ud)(D:zjy)(x:Vn):Uv (qf×zA):=ite (q (8 < Uw (x.1.K_.len - 2))) (f (qf.mk (lit []) (O [] N) (qh.mk (lit []) 0 0),x.1.a_,22)) (Z (z8 x.1.K_ 0 (Uw (x.1.K_.len - 2))) λa=>Z (lpO (qe6 A B C D) (x.2,Uw (x.1.K_.len - 2),a,a.len,0,ke x.1,(lit [],lit [],0,0),(x.1.T_,lit [],0,0),O [] N)) λb=>F (λ(c,d,e,i,j,l)=>f (qf.mk e (O [] N) (qh.mk i j l),c,d)) (λ(c,d,e,_,i,j)=>Z (za e.K_ d) λl=>Z (A (ke l,c)) λ(m,n)=>ite (q (n≠0)) (Z (za e.K_ d) λo=>f (qf.mk (lit []) (O [] N) (qh.mk (lit []) 0 0),o.a_,n)) (f (qf.mk i.1 j m,0,0))) b)
def qc9:Vn->Uv (qf×zA):=qh1 qba q5t q89 q5u
theorem qm7:qc9=P79.F:=by delta qc9;rw[qm1,qk5,qlq,qk6];kernel_rfl
def qdc(A:zvZ):zjF->Uv (Step zjF (zA⊕Sl qf)):=λa=>ite (q (a.2.2.2.1 < a.2.2.1)) (Z (Z (za a.2.1 a.2.2.2.1) λb=>ite (q (b.k_≠6)) (f (y a)) (Z (A (ke b,a.1)) λ(c,d,e)=>ite (q (e≠0)) (f (M (d,e))) (Z (zo 72 a.2.2.2.2 [c]) λi=>f (y (a.1,a.2.1,a.2.2.1,a.2.2.2.1,i))))) λb=>F (λ(c,d,e,i,j)=>f (Step.next (c,d,e,Uw (i+1),j))) (λc=>f (Step.done (y c))) b) (f (Step.done (M a.2.2.2.2)))
def qgf(A:zvZ)(x:Vn):Uv (Int×Int×Sl qf):=Z (lpO (qdc A) (x.2,x.1.K_,x.1.K_.len,0,O [] N)) λa=>F (λ(b,c)=>f (b,c,O [] N)) (λb=>f (0,0,b)) a
def q7v:Vn->Uv (Int×Int×Sl qf):=qgf qc9
theorem qm2:q7v=P80.F:=by delta q7v;rw[qm7];kernel_rfl
def qez(x:Int):Ud:=Z (ite (q (97<=x)) (ite (q (x<=122)) (f g) (f (q (x=95)))) (f (q (x=95)))) λa=>f a
def q30:Zl:=qez
theorem qi6:q30=P81.F:=jO
def qf9(x:Int):Ud:=Z (ite (q (48<=x)) (f (q (x<=57))) (f N)) λa=>f a
def q4u:Zl:=qf9
theorem qit:q4u=P82.F:=jO
def qfa(x:Zs):Ud:=Z (ite (q (x=lit [116,121,112,101])) (f (q (x=lit [116,121,112,101]))) (Z (ite (q (x=lit [102,110])) (f (q (x=lit [102,110]))) (Z (ite (q (x=lit [111,119,110])) (f (q (x=lit [111,119,110]))) (Z (ite (q (x=lit [99,101,108,108])) (f (q (x=lit [99,101,108,108]))) (Z (ite (q (x=lit [99,111,117,110,116,101,100])) (f (q (x=lit [99,111,117,110,116,101,100]))) (Z (ite (q (x=lit [108,111,99,107])) (f (q (x=lit [108,111,99,107]))) (Z (ite (q (x=lit [103,117,97,114,100])) (f (q (x=lit [103,117,97,114,100]))) (Z (ite (q (x=lit [119,104,101,114,101])) (f (q (x=lit [119,104,101,114,101]))) (Z (ite (q (x=lit [105,110,116])) (f (q (x=lit [105,110,116]))) (Z (ite (q (x=lit [109,117,116])) (f (q (x=lit [109,117,116]))) (Z (ite (q (x=lit [102,114,101,101])) (f (q (x=lit [102,114,101,101]))) (Z (ite (q (x=lit [117,110,108,111,99,107])) (f (q (x=lit [117,110,108,111,99,107]))) (Z (ite (q (x=lit [105,102])) (f (q (x=lit [105,102]))) (Z (ite (q (x=lit [101,108,115,101])) (f (q (x=lit [101,108,115,101]))) (Z (ite (q (x=lit [119,104,105,108,101])) (f (q (x=lit [119,104,105,108,101]))) (Z (ite (q (x=lit [114,101,116,117,114,110])) (f (q (x=lit [114,101,116,117,114,110]))) (Z (ite (q (x=lit [97,98,111,114,116])) (f (q (x=lit [97,98,111,114,116]))) (Z (ite (q (x=lit [102,111,114,107])) (f (q (x=lit [102,111,114,107]))) (Z (ite (q (x=lit [110,101,119])) (f (q (x=lit [110,101,119]))) (f (q (x=lit [97,114,114,97,121])))) λa=>f a)) λa=>f a)) λa=>f a)) λa=>f a)) λa=>f a)) λa=>f a)) λa=>f a)) λa=>f a)) λa=>f a)) λa=>f a)) λa=>f a)) λa=>f a)) λa=>f a)) λa=>f a)) λa=>f a)) λa=>f a)) λa=>f a)) λa=>f a)) λa=>ite a (f g) (f N)
def q43:vu:=qfa
theorem qiu:q43=P83.F:=jO
def qd8(x:zz):GV:=Z (ite (q (Uw (x.2+1) < (↑(V x.1):Int))) (Z (ZI x.1 x.2 (Uw (x.2+2))) λa=>f (x.1,x.2,a)) (f (x.1,x.2,lit []))) λ(a,b,c)=>Z (ite (q (c=lit [45,62])) (f (a,b,g)) (ite (q (c=lit [60,61])) (f (a,b,g)) (f (a,b,q (c=lit [61,61]))))) λ(d,e,i)=>ite i (f 2) (Z (Zh d e) λj=>Z (ite (q (j=123)) (f (q (j=123))) (Z (ite (q (j=125)) (f (q (j=125))) (Z (ite (q (j=40)) (f (q (j=40))) (Z (ite (q (j=41)) (f (q (j=41))) (Z (ite (q (j=91)) (f (q (j=91))) (Z (ite (q (j=93)) (f (q (j=93))) (Z (ite (q (j=44)) (f (q (j=44))) (Z (ite (q (j=58)) (f (q (j=58))) (Z (ite (q (j=59)) (f (q (j=59))) (Z (ite (q (j=61)) (f (q (j=61))) (Z (ite (q (j=43)) (f (q (j=43))) (Z (ite (q (j=45)) (f (q (j=45))) (Z (ite (q (j=38)) (f (q (j=38))) (f (q (j=60)))) λl=>f l)) λl=>f l)) λl=>f l)) λl=>f l)) λl=>f l)) λl=>f l)) λl=>f l)) λl=>f l)) λl=>f l)) λl=>f l)) λl=>f l)) λl=>f l)) λl=>ite l (f 1) (f 0))
def q4f:zz->GV:=qd8
theorem qji:q4f=P84.F:=jO
def q7w(A:Zl)(B:Zl)(C:vu)(D:WD):zha->Uv (Step zha zha):=λa=>ite (q (a.2.2.1 < (↑(V a.1):Int))) (Z (Zh a.1 a.2.2.1) λb=>Z (A b) λc=>Z (Zh a.1 a.2.2.1) λd=>Z (B d) λe=>Z (ite (!c) (f (a.1,a.2.1,a.2.2.1, !e,a.2.2.2)) (f (a.1,a.2.1,a.2.2.1,N,a.2.2.2))) λ(i,j,l,m,n,o)=>ite m (f (Step.done (i,j,l,(n,o)))) (f (Step.next (i,j,Uw (l+1),(n,o))))) (f (Step.done a))
def q7x(A:Zl)(B:Zl)(C:vu)(D:WD):zaH->Uv (Step zaH zaH):=λa=>ite (q (a.2.2.1 < (↑(V a.1):Int))) (Z (Zh a.1 a.2.2.1) λb=>Z (B b) λc=>ite (!c) (f (Step.done a)) (Z (ite (q (a.2.2.2.1<=1099511627776)) (Z (Zh a.1 a.2.2.1) λd=>f (a.1,a.2.1,a.2.2.1,Uw (Uw (a.2.2.2.1 * 10)+Uw (IntKind.u8.wrap (d - 48))),a.2.2.2.2)) (f a)) λd=>Z (ite (q (1099511627776 < d.2.2.2.1)) (f (d.1,d.2.1,d.2.2.1,d.2.2.2.1,g,d.2.2.2.2.2)) (f d)) λ(e,i,j,l,m,n,o)=>f (Step.next (e,i,Uw (j+1),(l,m,n,o))))) (f (Step.done a))
def qdl(A:Zl)(B:Zl)(C:vu)(D:WD)(x:zz):Uv (q9×Int):=Z (Zh x.1 x.2) λa=>Z (A a) λb=>Z (Zh x.1 x.2) λc=>Z (B c) λd=>Z (ite b (Z (lpO (q7w A B C D) (x.1,x.2,x.2,q9.mk 0 (lit []) 0 0,q9.mk 0 (lit []) 0 x.2)) λe=>Z (ZI e.1 e.2.1 e.2.2.1) λi=>ite (q (16 < (↑i.size:Int))) (f (y (13,q9.mk 0 (lit []) 0 0))) (Z (C i) λj=>Z (ite j (f (e.2.2.2.1,q9.mk 2 i e.2.2.2.2.n_ e.2.2.2.2.a_)) (f (e.2.2.2.1,q9.mk 1 i e.2.2.2.2.n_ e.2.2.2.2.a_))) λl=>f (y (0,l.2)))) (f (M (x.1,x.2,x.2,d,q9.mk 0 (lit []) 0 0,q9.mk 0 (lit []) 0 x.2)))) λe=>F (λi=>f (i.2,i.1)) (λi=>Z (ite i.2.2.2.1 (Z (lpO (q7x A B C D) (i.1,i.2.1,i.2.2.1,0,N,i.2.2.2.2)) λj=>Z (ite (q (j.2.2.1 < (↑(V j.1):Int))) (Z (Zh j.1 j.2.2.1) λl=>Z (A l) λm=>f (j.1,j.2.1,j.2.2.1,j.2.2.2.1,j.2.2.2.2.1,m,j.2.2.2.2.2)) (f (j.1,j.2.1,j.2.2.1,j.2.2.2.1,j.2.2.2.2.1,N,j.2.2.2.2.2))) λl=>Z (ite l.2.2.2.2.1 (f (l.1,l.2.1,l.2.2.1,l.2.2.2.1,g,l.2.2.2.2.2.2)) (ite l.2.2.2.2.2.1 (f (l.1,l.2.1,l.2.2.1,l.2.2.2.1,g,l.2.2.2.2.2.2)) (Z (Zh l.1 l.2.1) λm=>ite (q (m=48)) (f (l.1,l.2.1,l.2.2.1,l.2.2.2.1,q (Uw (l.2.1+1) < l.2.2.1),l.2.2.2.2.2.2)) (f (l.1,l.2.1,l.2.2.1,l.2.2.2.1,N,l.2.2.2.2.2.2))))) λm=>ite m.2.2.2.2.1 (f (y (12,q9.mk 0 (lit []) 0 0))) (Z (ZI m.1 m.2.1 m.2.2.1) λn=>f (y (0,q9.mk 3 n m.2.2.2.1 m.2.2.2.2.2.2.a_)))) (f (M (i.1,i.2.1,i.2.2.2.2)))) λj=>F (λl=>f (l.2,l.1)) (λl=>Z (D (l.1,l.2.1)) λm=>ite (q (m=0)) (f (q9.mk 0 (lit []) 0 0,11)) (Z (ZI l.1 l.2.1 (Uw (l.2.1+m))) λn=>f (q9.mk 4 n l.2.2.2.n_ l.2.2.2.a_,0))) j) e
def q6r:zz->Uv (q9×Int):=qdl q30 q4u q43 q4f
theorem qk7:q6r=P85.F:=by delta q6r;rw[qi6,qit,qiu,qji];kernel_rfl
def q8c(A:zqe):Vj->Uv (Step Vj Vj):=λ(a,b,c)=>Z (ite (q (b < (↑(V a):Int))) (Z (Zh a b) λd=>f (a,b,q (d≠10),c)) (f (a,b,N,c))) λ(d,e,i,j)=>ite i (f (Step.next (d,Uw (e+1),j))) (f (Step.done (d,e,j)))
def q8d(A:zqe):Vj->Uv (Step Vj zv5):=λ(a,b,c)=>ite (q (b < (↑(V a):Int))) (Z (Z (Z (Zh a b) λd=>ite (q (d=32)) (f (a,b,g,c)) (Z (Zh a b) λe=>f (a,b,q (e=10),c))) λ(d,e,i,j)=>ite i (f (y (d,Uw (e+1),j))) (Z (Zh d e) λl=>ite (q (l=35)) (Z (lpO (q8c A) (d,e,j)) λm=>f (y m)) (Z (A (d,e)) λ(n,o)=>ite (q (o≠0)) (f (M (e,o))) (Z (zo 40 j [n]) λp=>f (y (d,Uw (e+(↑n.T_.size:Int)),p)))))) λd=>F (λe=>f (Step.next e)) (λe=>f (Step.done (y e))) d) (f (Step.done (M (a,c))))
def qbv(A:zqe)(x:Zs):Uv (Int×Int×Sl q9):=ite (q (16384 < (↑x.size:Int))) (f (0,10,O [] N)) (Z (lpO (q8d A) (x,0,O [] N)) λa=>F (λ(b,c)=>f (b,c,O [] N)) (λ(b,c)=>Z (zo 40 c [q9.mk 0 (lit []) 0 (↑(V b):Int)]) λd=>f (0,0,d)) a)
def q71:zjA:=qbv q6r
theorem qi7:q71=P86.F:=by delta q71;rw[qk7];kernel_rfl
def qbh(x:xm):Uv zV:=Z (za x.2.2 x.2.1.1) λa=>Z (za x.2.2 x.2.1.1) λb=>Z (ite (q (x.2.1.2.2.1=0)) (ite (q (b.k_=2)) (Z (za x.2.2 x.2.1.1) λc=>Z (za x.2.2 x.2.1.1) λd=>f (q (d.T_=x.1),x.2)) (ite (q (b.k_=4)) (Z (za x.2.2 x.2.1.1) λe=>Z (za x.2.2 x.2.1.1) λi=>f (q (i.T_=x.1),x.2)) (f (N,x.2)))) (f (N,x.2))) λc=>f c
def q1u:xm->Uv zV:=qbh
theorem q7t:q1u=P87.F:=jO
def qau(A:yg)(x:xm):Uv zV:=Z (A x) λa=>Z (ite a.1 (f (a.1,(Uw (a.2.1.1+1),a.2.1.2),a.2.2)) (f a)) λb=>f b
def q10:xm->Uv zV:=qau q1u
theorem q1x:q10=P88.F:=by delta q10;rw[q7t];kernel_rfl
def q9p(x:Yn):Uv zH:=Z (ite (q (x.2.1.2.2.1=0)) (Z (za x.2.2 x.2.1.1) λa=>Z (za x.2.2 x.2.1.1) λb=>f ((x.2.1.1,x.2.1.2.1,x.1,b.a_),x.2.2)) (f x.2)) λa=>f a
def q1a:Yn->Uv zH:=q9p
theorem q5d:q1a=P89.F:=jO
def q9r(A:zad)(x:zH):Uv Ym:=Z (za x.2 x.1.1) λa=>Z (za x.2 x.1.1) λb=>Z (ite (q (x.1.2.2.1≠0)) (f (g,x.1,x.2,(0,lit [],0,0),b)) (f (q (b.k_≠1),x.1,x.2,(0,lit [],0,0),b))) λ((c,d,e,_,i):Bool×(Int×Int×Int×Int)×Sl q9×(Int×Ut×Int×Int)×q9)=>ite c (Z (A (20,d,e)) λj=>f ((0,lit [],0,0),j)) (f ((5,i.T_,0,i.a_),(Uw (d.1+1),d.2),e))
def q17:zH->Uv Ym:=q9r q1a
theorem q3t:q17=P90.F:=by delta q17;rw[q5d];kernel_rfl
def q9q(A:yg)(B:zad)(x:xm):Uv zH:=Z (A x) λ(a,b,c)=>Z (ite (!a) (Z (B (20,(b,c))) λd=>f d) (f (b,c))) λd=>f d
def q12:xm->Uv zH:=q9q q10 q1a
theorem q38:q12=P91.F:=by delta q12;rw[q1x,q5d];kernel_rfl
def q9v(A:yg)(B:wn)(C:vf)(x:zH):Uv Zw:=Z (za x.2 x.1.1) λa=>Z (za x.2 x.1.1) λb=>Z (za x.2 x.1.1) λc=>Z (za x.2 x.1.1) λd=>Z (A (lit [105,110,116],x)) λ(e,i,j)=>ite e (f (q6.mk 8 b.T_ 0 d.a_ (O [] N),(i,j))) (Z (A (lit [111,119,110],(i,j))) λ(l,m,n)=>Z (ite (!l) (Z (B (lit [38],(m,n))) λo=>Z (A (lit [109,117,116],o)) λ(p,r,s)=>Z (ite p (f (r,s,(0,lit [],0,0),8,lit [38,109,117,116],0,d.a_)) (f (r,s,(0,lit [],0,0),8,b.T_,0,d.a_))) λ(t:zmn)=>f t) (f (m,n,(0,lit [],0,0),8,b.T_,0,d.a_))) λ((o,p,_,r,s,t,u):zmn)=>Z (C (o,p)) λ(v,w,z)=>f (q6.mk r s t u (O [q6.mk v.1 v.2.1 v.2.2.1 v.2.2.2 (O [] N)] g),(w,z)))
def q3o:zH->Uv Zw:=q9v q10 q12 q17
theorem qjj:q3o=P92.F:=by delta q3o;rw[q1x,q38,q3t];kernel_rfl
def q8e(A:zad)(x:zH):Uv Yn:=Z (za x.2 x.1.1) λa=>Z (za x.2 x.1.1) λb=>Z (ite (q (x.1.2.2.1≠0)) (f (g,x.1,x.2,b)) (f (q (b.k_≠3),x.1,x.2,b))) λ(c,d,e,i)=>ite c (Z (A (20,d,e)) λj=>f (0,j)) (f (i.n_,(Uw (d.1+1),d.2),e))
def q2n:zH->Uv Yn:=q8e q1a
theorem q99:q2n=P93.F:=by delta q2n;rw[q5d];kernel_rfl
def q9s(A:yg)(B:zpR)(x:Zw):Uv Zw:=Z (A (lit [43],x.2)) λa=>ite a.1 (Z (B a.2) λb=>f (q6.mk x.1.k_ x.1.T_ b.1 x.1.a_ x.1.K_,b.2)) (Z (A (lit [45],a.2)) λc=>Z (ite c.1 (Z (B c.2) λd=>f (d.2.1,d.2.2,q6.mk x.1.k_ x.1.T_ (Uw (0 - d.1)) x.1.a_ x.1.K_,0,lit [],0,0)) (f (c.2.1,c.2.2,kr x.1,0,lit [],0,0))) λ(d:(Int×Int×Int×Int)×Sl q9×q6×Int×Ut×Int×Int)=>f (kr d.2.2.1,d.1,d.2.1))
def q2c:Zw->Uv Zw:=q9s q10 q2n
theorem qgo:q2c=P94.F:=by delta q2c;rw[q1x,q99];kernel_rfl
def q9t(A:zpR)(B:yg)(C:vf)(D:zzI)(x:zH):Uv Zw:=Z (za x.2 x.1.1) λa=>Z (za x.2 x.1.1) λb=>Z (za x.2 x.1.1) λc=>Z (za x.2 x.1.1) λd=>ite (q (d.k_=3)) (Z (A x) λ(e,i,j)=>f (q6.mk 5 (lit []) e b.a_ (O [] N),(i,j))) (Z (B (lit [45],x)) λ(l,m,n)=>ite l (Z (A (m,n)) λ(o,p,r)=>f (q6.mk 5 (lit []) (Uw (0 - o)) b.a_ (O [] N),(p,r))) (Z (C (m,n)) λ(s,t,u)=>Z (D (q6.mk s.1 s.2.1 s.2.2.1 s.2.2.2 (O [] N),(t,u))) λ(v,w,z)=>f (kr v,(w,z))))
def q1z:zH->Uv Zw:=q9t q2n q10 q17 q2c
theorem q85:q1z=P95.F:=by delta q1z;rw[q99,q1x,q3t,qgo];kernel_rfl
def q7z(A:yg)(B:zad):Int×GY×Sl q9×zcW->Uv (Step (Int×GY×Sl q9×zcW) zvt):=λ(a,b,c,d)=>ite (q (a < Sl.len d)) (Z (za d a) λe=>Z (za d a) λi=>Z (A (i,b,c)) λ(j,l,m)=>ite j (Z (za d a) λn=>Z (za d a) λo=>f (Step.done (y (o,(l,m))))) (f (Step.next (Uw (a+1),l,m,d)))) (f (Step.done (M (b,c))))
def qav(A:yg)(B:zad)(x:zH):Uv xm:=Z (lpO (q7z A B) (0,x.1,x.2,O [lit [60],lit [60,61],lit [61,61]] g)) λa=>F (λb=>f b) (λb=>Z (B (20,b)) λc=>f (lit [],c)) a
def q6s:zH->Uv xm:=qav q10 q1a
theorem qk8:q6s=P96.F:=by delta q6s;rw[q1x,q5d];kernel_rfl
def q7b(A:wF)(B:zH->Uv xm)(x:zH):Uv ZH:=Z (A x) λ(a,b,c)=>Z (B (b,c)) λ(d,e,i)=>Z (A (e,i)) λ(j,l,m)=>f ((4,d,0,a.a_),l,m,O [kr a,kr j] g)
def q20:YE:=q7b q1z q6s
theorem qgp:q20=P97.F:=by delta q20;rw[q85,qk8];kernel_rfl
def q5w(A:wn)(B:yg)(C:wF):GY×Sl q9×q6×Uc->Uv (Step (GY×Sl q9×q6×Uc) zaK):=λ(a,b,_,c)=>Z (B (lit [44],a,b)) λ(d,e,i)=>ite (!d) (f (Step.done (e,i,c))) (Z (C (e,i)) λ(j,l,m)=>Z (zo 64 c [kr j]) λn=>f (Step.next (l,m,kr j,n)))
def q9u(A:wn)(B:yg)(C:wF)(x:zH):Uv zaK:=Z (A (lit [40],x)) λa=>Z (B (lit [41],a)) λ(b,c,d)=>Z (ite b (f (g,(c,d))) (f (q (c.2.2.1≠0),(c,d)))) λ(e,i,j)=>ite e (f (i,j,O [] N)) (Z (C (i,j)) λ(l,m,n)=>Z (lpO (q5w A B C) (m,n,kr l,O [kr l] g)) λ(o,p,r)=>Z (A (lit [41],o,p)) λ(s,t)=>f (s,t,r))
def q3n:zH->Uv zaK:=q9u q12 q10 q1z
theorem qdy:q3n=P98.F:=by delta q3n;rw[q38,q1x,q85];kernel_rfl
def q9w(A:yg)(B:zpR)(C:vf)(D:wF)(E:yg)(G:zuY)(H:wn)(I:zzI)(x:zH):Uv Zw:=Z (za x.2 x.1.1) λa=>Z (za x.2 x.1.1) λb=>Z (A (lit [110,101,119],x)) λ(c,d,e)=>ite c (Z (B (d,e)) λ(i,j,l)=>f (q6.mk 23 (lit []) i b.a_ (O [] N),(j,l))) (Z (A (lit [97,114,114,97,121],(d,e))) λ(m,n,o)=>ite m (Z (C (n,o)) λ(p,r,s)=>f (q6.mk 24 p.2.1 0 b.a_ (O [] N),(r,s))) (Z (A (lit [38],(n,o))) λ(t,u,v)=>ite t (Z (A (lit [109,117,116],(u,v))) λ(w,z,J)=>Z (ite w (f (z,J,(0,lit [],0,0),27,lit [],0,b.a_)) (f (z,J,(0,lit [],0,0),26,lit [],0,b.a_))) λ((K,L,_,P,_,Q,R):zmn)=>Z (C (K,L)) λ(S,T,U)=>f (q6.mk P S.2.1 Q R (O [] N),(T,U))) (Z (za v u.1) λW=>Z (za v u.1) λX=>ite (q (X.k_≠1)) (Z (D (u,v)) λ(a1,a2,a3)=>f (kr a1,(a2,a3))) (Z (C (u,v)) λ(a4,a5,a6)=>Z (E (lit [40],(a5,a6))) λ(a7,a8,a9)=>ite a7 (Z (G (a8,a9)) λ(b1,b2,b3)=>f (q6.mk 28 a4.2.1 a4.2.2.1 a4.2.2.2 b3,b1,b2)) (Z (A (lit [91],(a8,a9))) λ(b4,b5,b6)=>ite b4 (Z (D (b5,b6)) λ(b7,b8,b9)=>Z (H (lit [93],(b8,b9))) λc1=>f (q6.mk 25 a4.2.1 a4.2.2.1 a4.2.2.2 (O [kr b7] g),c1)) (Z (E (lit [43],(b5,b6))) λ(c2,c3,c4)=>Z (E (lit [45],(c3,c4))) λ(c5,c6,c7)=>Z (ite c2 (Z (za c7 (Uw (c6.1+1))) λc8=>Z (za c7 (Uw (c6.1+1))) λc9=>f (c5,q (c9.k_=1),c6,c7,(0,lit [],0,0),a4)) (ite c5 (Z (za c7 (Uw (c6.1+1))) λd1=>Z (za c7 (Uw (c6.1+1))) λk=>f (c5,q (k.k_=1),c6,c7,(0,lit [],0,0),a4)) (f (c5,N,c6,c7,(0,lit [],0,0),a4)))) λ((c8,c9,d1,k,d3,d4,d5,d6,d7):Bool×Bool×(Int×Int×Int×Int)×Sl q9×(Int×Ut×Int×Int)×Int×Ut×Int×Int)=>ite c9 (Z (C ((Uw (d1.1+1),d1.2),k)) λ(h,d9,e1)=>Z (ite c8 (f (d9,e1,d3,(22,lit [],0,d7),O [q6.mk d4 d5 d6 d7 (O [] N),q6.mk h.1 h.2.1 h.2.2.1 h.2.2.2 (O [] N)] g)) (f (d9,e1,d3,(21,lit [],0,d7),O [q6.mk d4 d5 d6 d7 (O [] N),q6.mk h.1 h.2.1 h.2.2.1 h.2.2.2 (O [] N)] g))) λ((e2,e3,_,e4,e5):xJ)=>f (q6.mk e4.1 e4.2.1 e4.2.2.1 e4.2.2.2 e5,e2,e3)) (Z (I (q6.mk d4 d5 d6 d7 (O [] N),d1,k)) λ(e6,e7,e8)=>f (kr e6,(e7,e8)))))))))
def q6e:zH->Uv Zw:=q9w q10 q2n q17 q1z q1u q3n q12 q2c
theorem qjk:q6e=P99.F:=by delta q6e;rw[q1x,q99,q3t,q85,q7t,qdy,q38,qgo];kernel_rfl
def qcn(A:vf)(B:yg)(C:zuY)(D:yg)(E:wF)(G:wn)(H:wF)(x:zH):Uv ZH:=Z (A x) λ(a,b,c)=>Z (B (lit [40],(b,c))) λ(d,e,i)=>ite d (Z (C (e,i)) λ(j,l,m)=>f ((20,lit [],0,a.2.2.2),j,l,O [q6.mk 28 a.2.1 a.2.2.1 a.2.2.2 m] g)) (Z (D (lit [91],(e,i))) λ(n,o,p)=>ite n (Z (E (o,p)) λ(r,s,t)=>Z (G (lit [93],(s,t))) λu=>Z (G (lit [61],u)) λv=>Z (E v) λ(w,z,I)=>f ((11,a.2),z,I,O [kr r,kr w] g)) (Z (G (lit [61],(o,p))) λJ=>Z (H J) λ(K,L,P)=>f ((10,a.2),L,P,O [kr K] g)))
def q7c:YE:=qcn q17 q1u q3n q10 q1z q12 q6e
theorem qiv:q7c=zk7.F:=by delta q7c;rw[q3t,q7t,qdy,q1x,q85,q38,qjk];kernel_rfl
def q53(A:Wz)(B:Wz)(x:zeG):Uv ZH:=Z (A x.2.2) λ(a,b,c,d)=>Z (B (b,c)) λ(e,i,j,l)=>Z (zo 64 d [q6.mk e.1 e.2.1 e.2.2.1 e.2.2.2 l]) λm=>f ((x.1,a.2.1,a.2.2.1,x.2.1),i,j,m)
def q21(h:YE):zeG->Uv ZH:=q53 q20 h
theorem qf0(h:YE):@Eq ((zeG)->Uv ZH) (zgx h) (q21 h):=by delta q21;rw[qgp];kernel_rfl
def q7d(A:zeG->Uv ZH)(B:yg)(C:Wz)(D:vf)(E:wn)(G:zpR)(H:yg)(I:wF)(J:zuY)(K:Wz)(x:zH):Uv ZH:=Z (za x.2 x.1.1) λa=>Z (za x.2 x.1.1) λb=>Z (za x.2 x.1.1) λc=>Z (za x.2 x.1.1) λd=>Z (ite (q (d.k_=2)) (Z (za x.2 x.1.1) λe=>Z (za x.2 x.1.1) λi=>f (b.a_,i.T_,x.1,x.2,0,lit [],0,0)) (f (b.a_,lit [],x.1,x.2,0,lit [],0,0))) λ(e:Int×Ut×(Int×Int×Int×Int)×Sl q9×Int×Ut×Int×Int)=>Z (ite (q (e.2.1=lit [105,102])) (Z (A (15,e.1,(Uw (e.2.2.1.1+1),e.2.2.1.2),e.2.2.2.1)) λi=>Z (B (lit [101,108,115,101],i.2.1,i.2.2.1)) λj=>Z (ite j.1 (Z (C j.2) λl=>f (l.2.1,l.2.2.1,e.2.2.2.2,i.1,l.1,i.2.2.2,l.2.2.2)) (f (j.2.1,j.2.2,e.2.2.2.2,i.1,(9,lit [],0,e.1),i.2.2.2,O [] N))) λ(l:(Int×Int×Int×Int)×Sl q9×(Int×Ut×Int×Int)×(Int×Ut×Int×Int)×(Int×Ut×Int×Int)×Sl q6×Sl q6)=>Z (zo 64 l.2.2.2.2.2.1 [q6.mk l.2.2.2.2.1.1 l.2.2.2.2.1.2.1 l.2.2.2.2.1.2.2.1 l.2.2.2.2.1.2.2.2 l.2.2.2.2.2.2]) λm=>f (y (l.1,l.2.1,l.2.2.2.1,m))) (ite (q (e.2.1=lit [119,104,105,108,101])) (Z (A (16,e.1,(Uw (e.2.2.1.1+1),e.2.2.1.2),e.2.2.2.1)) λn=>f (y (n.2.1,n.2.2.1,n.1,n.2.2.2))) (Z (ite (q (e.2.1=lit [102,114,101,101])) (Z (D ((Uw (e.2.2.1.1+1),e.2.2.1.2),e.2.2.2.1)) λo=>f (o.2.1,o.2.2,e.2.2.2.2,(12,o.1.2.1,0,e.1),O [] N)) (Z (ite (q (e.2.1=lit [108,111,99,107])) (f (e.2.1,e.2.1,q (e.2.1=lit [108,111,99,107]),e.2.2.1,e.2.2.2.1,e.2.2.2.2,0,lit [],0,e.1)) (f (e.2.1,e.2.1,q (e.2.1=lit [117,110,108,111,99,107]),e.2.2.1,e.2.2.2.1,e.2.2.2.2,0,lit [],0,e.1))) λ(p:Ut×Ut×Bool×(Int×Int×Int×Int)×Sl q9×(Int×Ut×Int×Int)×Int×Ut×Int×Int)=>Z (ite p.2.2.1 (Z (D ((Uw (p.2.2.2.1.1+1),p.2.2.2.1.2),p.2.2.2.2.1)) λr=>Z (ite (q (p.1=lit [117,110,108,111,99,107])) (f (r.2.1,r.2.2,p.2.2.2.2.2.1,(14,p.2.2.2.2.2.2.2),r.1)) (f (r.2.1,r.2.2,p.2.2.2.2.2.1,(13,p.2.2.2.2.2.2.2),r.1))) λ(s:(Int×Int×Int×Int)×Sl q9×(Int×Ut×Int×Int)×(Int×Ut×Int×Int)×Int×Ut×Int×Int)=>Z (E (lit [91],s.1,s.2.1)) λt=>Z (G t) λu=>Z (E (lit [93],u.2)) λv=>f (v.1,v.2,s.2.2.1,(s.2.2.2.1.1,s.2.2.2.2.2.1,u.1,s.2.2.2.1.2.2.2),O [] N)) (Z (ite (q (p.2.1=lit [114,101,116,117,114,110])) (Z (H (lit [59],(Uw (p.2.2.2.1.1+1),p.2.2.2.1.2),p.2.2.2.2.1)) λw=>Z (ite (!w.1) (Z (I w.2) λz=>f (z.2.1,z.2.2,p.2.2.2.2.2.1,(17,p.2.2.2.2.2.2.2),O [kr z.1] g)) (f (w.2.1,w.2.2,p.2.2.2.2.2.1,(17,p.2.2.2.2.2.2.2),O [] N))) λ(z:xJ)=>f z) (Z (ite (q (p.2.1=lit [97,98,111,114,116])) (f ((Uw (p.2.2.2.1.1+1),p.2.2.2.1.2),p.2.2.2.2.1,p.2.2.2.2.2.1,(18,p.2.2.2.2.2.2.2),O [] N)) (Z (ite (q (p.2.1=lit [102,111,114,107])) (Z (D ((Uw (p.2.2.2.1.1+1),p.2.2.2.1.2),p.2.2.2.2.1)) λL=>Z (J L.2) λP=>f (P.1,P.2.1,p.2.2.2.2.2.1,(19,L.1.2.1,p.2.2.2.2.2.2.2.2),P.2.2)) (Z (K (p.2.2.2.1,p.2.2.2.2.1)) λQ=>f (Q.2.1,Q.2.2.1,p.2.2.2.2.2.1,Q.1,Q.2.2.2))) λ(L:xJ)=>f L)) λ(L:xJ)=>f L)) λ(w:xJ)=>f w)) λ(r:xJ)=>f r)) λ(o:xJ)=>f (M o)))) λ(i:(Int×Int×Int×Int)×Sl q9×(Int×Ut×Int×Int)×Sl q6⊕(Int×Int×Int×Int)×Sl q9×(Int×Ut×Int×Int)×(Int×Ut×Int×Int)×Sl q6)=>F (λj=>f (j.2.2.1,j.1,j.2.1,j.2.2.2)) (λj=>Z (E (lit [59],j.1,j.2.1)) λl=>f (j.2.2.2.1,l.1,l.2,j.2.2.2.2)) i
def q3b(h:YE):YE:=q7d (q21 h) q10 h q17 q12 q2n q1u q1z q3n q7c
theorem qg5(h:YE):@Eq YE (zgy h) (q3b h):=by delta q3b;rw[<-qf0 h,q1x,q3t,q38,q99,q7t,q85,qdy,qiv];kernel_rfl
def q4n(A:yg)(B:zad)(C:wn)(D:yg)(E:Wz):xJ->Uv (Step xJ xJ):=λa=>ite (q (a.1.2.2.1=0)) (Z (D (lit [125],a.1,a.2.1)) λ(b,c,d)=>ite b (f (Step.done (c,d,a.2.2))) (Z (E (c,d)) λ(e,i,j,l)=>Z (zo 64 a.2.2.2.2 [q6.mk e.1 e.2.1 e.2.2.1 e.2.2.2 l]) λm=>f (Step.next (i,j,a.2.2.1,a.2.2.2.1,m)))) (f (Step.done a))
def q2o(A:yg)(B:zad)(C:wn)(D:yg)(E:Wz)(x:zH):Uv ZH:=Z (za x.2 x.1.1) λa=>Z (za x.2 x.1.1) λb=>Z (A (lit [123],x)) λ(c,d,e)=>Z (ite c (f (q (8<=d.2.1),d,e,(0,lit [],0,0),9,lit [],0,b.a_)) (f (N,d,e,(0,lit [],0,0),9,lit [],0,b.a_))) λ((i,j,l,m,n,o,p,r):Bool×(Int×Int×Int×Int)×Sl q9×(Int×Ut×Int×Int)×Int×Ut×Int×Int)=>Z (ite i (Z (B (21,j,l)) λ(s,t)=>f (s,t,(m,n,o,p,r))) (f (j,l,m,n,o,p,r))) λ((s,t,u,v,w,z,G):zmn)=>Z (C (lit [123],s,t)) λ(H,I)=>Z (lpO (q4n A B C D E) ((H.1,Uw (H.2.1+1),H.2.2),I,u,(v,w,z,G),O [] N)) λ(J,K,_,L,P)=>f (L,(J.1,Uw (J.2.1 - 1),J.2.2),K,P)
def q9a(h:YE):YE:=q2o q1u q1a q12 q10 (q3b h)
theorem qi8(h:YE):@Eq YE (zi5 h) (q9a h):=by delta q9a;rw[q7t,q5d,q38,q1x,<-qg5 h];kernel_rfl
def q4m:Nat->zH->Uv ZH
 |0=>λ_=>Y
 |k+1=>q9a (q4m k)
theorem q9b:∀k,@Eq YE (zci k) (q4m k)
 |0=>rfl
 |k+1=>(qi8 (zci k)).trans (congrArg q9a (q9b k))
def q5x:YE:=q4m 100000
theorem qiw:@Eq YE zyj q5x:=q9b 100000
def qbi(A:vf)(B:wn)(C:yg)(D:wF)(E:yg)(G:zad)(H:Wz):zac->Uv (Step zac xJ):=λ(a,b,c,d,e,i)=>Z (ite (!a) (f (a,q (b.2.2.1=0),(b,c,d,e,i))) (f (a,N,(b,c,d,e,i)))) λ((j,l,m,n,o,p,r):Bool×Bool×(Int×Int×Int×Int)×Sl q9×(Int×Ut×Int×Int)×(Int×Ut×Int×Int)×Sl q6)=>ite l (Z (A (m,n)) λ(s,t,u)=>Z (B (lit [58],(t,u))) λv=>Z (D v) λ(w,z,I)=>Z (zo 64 r [q6.mk 7 s.2.1 s.2.2.1 s.2.2.2 (O [kr w] g)]) λJ=>Z (C (lit [44],(z,I))) λ(K,L,P)=>Z (ite (!K) (Z (B (lit [41],(L,P))) λ(Q,R)=>f (g,Q,R,o,p,J)) (f (j,L,P,o,p,J))) λ(Q:zac)=>f (Step.next Q)) (f (Step.done (m,n,o,p,r)))
def qe8(A:vf)(B:wn)(C:yg)(D:wF)(E:yg)(G:zad)(H:Wz)(x:Yn):Uv ZH:=Z (A x.2) λa=>Z (B (lit [40],a.2)) λb=>Z (C (lit [41],b)) λc=>Z (lpO (qbi A B C D E G H) (c.1,c.2.1,c.2.2,(0,lit [],0,0),(6,a.1.2.1,a.1.2.2.1,x.1),O [] N)) λd=>Z (za d.2.1 d.1.1) λe=>Z (za d.2.1 d.1.1) λi=>Z (C (lit [45,62],d.1,d.2.1)) λj=>Z (ite j.1 (Z (E (lit [38],j.2)) λl=>Z (ite l.1 (Z (G (20,l.2)) λm=>f (m.1,m.2,d.2.2.1,d.2.2.2.1,(8,lit [],0,i.a_),d.2.2.2.2)) (f (l.2.1,l.2.2,d.2.2.1,d.2.2.2.1,(8,lit [],0,i.a_),d.2.2.2.2))) λ(m:(Int×Int×Int×Int)×Sl q9×(Int×Ut×Int×Int)×(Int×Ut×Int×Int)×(Int×Ut×Int×Int)×Sl q6)=>Z (D (m.1,m.2.1)) λn=>f (n.2.1,n.2.2,m.2.2.1,m.2.2.2.1,kr n.1,m.2.2.2.2.2)) (f (j.2.1,j.2.2,d.2.2.1,d.2.2.2.1,q6.mk 8 (lit []) 0 i.a_ (O [] N),d.2.2.2.2))) λ(l:(Int×Int×Int×Int)×Sl q9×(Int×Ut×Int×Int)×(Int×Ut×Int×Int)×q6×Sl q6)=>Z (H (l.1,l.2.1)) λm=>Z (zo 64 l.2.2.2.2.2 [kr l.2.2.2.2.1]) λn=>Z (zo 64 n [q6.mk m.1.1 m.1.2.1 m.1.2.2.1 m.1.2.2.2 m.2.2.2]) λo=>f (l.2.2.2.1,m.2.1,m.2.2.1,o)
def q7e:Yn->Uv ZH:=qe8 q17 q12 q10 q3o q1u q1a q5x
theorem qkr:q7e=zta.F:=by delta q7e;rw[q3t,q38,q1x,qjj,q7t,q5d,<-qiw];kernel_rfl
def q45(A:yg)(B:vf)(C:zad):Int×GY×Sl q9×GS×GS×zcW->Uv (Step (Int×GY×Sl q9×GS×GS×zcW) tA6):=λ(a,b,c,d,e,i)=>ite (q (a < Sl.len i)) (Z (za i a) λj=>Z (za i a) λl=>Z (A (l,b,c)) λ(m,n,o)=>ite m (Z (B (n,o)) λ(p,r,s)=>f (Step.done (y (r,s,e,O [q6.mk p.1 p.2.1 p.2.2.1 p.2.2.2 (O [] N)] g)))) (f (Step.next (Uw (a+1),n,o,(d,e,i))))) (f (Step.done (M (b,c,d,e))))
def q9x(A:yg)(B:vf)(C:zad)(x:zH):Uv Zw:=Z (za x.2 x.1.1) λa=>Z (za x.2 x.1.1) λb=>Z (za x.2 x.1.1) λc=>Z (za x.2 x.1.1) λd=>Z (A (lit [111,119,110],x)) λ(e,i,j)=>ite e (f (q6.mk 2 b.T_ 0 d.a_ (O [] N),(i,j))) (Z (A (lit [99,101,108,108],(i,j))) λ(l,m,n)=>ite l (f (q6.mk 2 b.T_ 0 d.a_ (O [] N),(m,n))) (Z (lpO (q45 A B C) (0,m,n,(0,lit [],0,0),(2,b.T_,0,d.a_),O [lit [99,111,117,110,116,101,100],lit [108,111,99,107],lit [103,117,97,114,100]] g)) λo=>F (λ(p,r,s,t)=>f (q6.mk s.1 s.2.1 s.2.2.1 s.2.2.2 t,p,r)) (λ(p,r,_,s,t,u,v)=>Z (C (20,p,r)) λw=>f (q6.mk s t u v (O [] N),w)) o))
def q4g:zH->Uv Zw:=q9x q10 q17 q1a
theorem qjm:q4g=ztb.F:=by delta q4g;rw[q1x,q3t,q5d];kernel_rfl
def qco(A:vf)(B:yg)(C:wn)(x:zH):Uv ZH:=Z (A x) λa=>Z (B (lit [91],a.2)) λb=>Z (ite b.1 (Z (A b.2) λc=>Z (C (lit [93],c.2)) λd=>f (d.1,d.2,(0,lit [],0,0),(3,a.1.2),O [q6.mk c.1.1 c.1.2.1 c.1.2.2.1 c.1.2.2.2 (O [] N)] g)) (f (b.2.1,b.2.2,(0,lit [],0,0),(3,a.1.2),O [] N))) λ(c:xJ)=>f (c.2.2.2.1,c.1,c.2.1,c.2.2.2.2)
def q46:YE:=qco q17 q10 q12
theorem qix:q46=ztc.F:=by delta q46;rw[q3t,q1x,q38];kernel_rfl
def qdp(A:vf)(B:wF)(C:yg)(D:Wz)(E:wn)(G:Wz):zac->Uv (Step zac xJ):=λ(a,b,c,d,e,i)=>ite a (Z (D (b,c)) λ(j,l,m,n)=>Z (zo 64 i [q6.mk j.1 j.2.1 j.2.2.1 j.2.2.2 n]) λo=>Z (C (lit [44],l,m)) λ(p,r,s)=>Z (ite (!p) (Z (E (lit [125],(r,s))) λ(t,u)=>f (p,t,u,d,e,o)) (f (p,r,s,d,e,o))) λt=>f (Step.next t)) (f (Step.done (b,c,d,e,i)))
def qdq(A:vf)(B:wF)(C:yg)(D:Wz)(E:wn)(G:Wz):zac->Uv (Step zac xJ):=λ(a,b,c,d,e,i)=>ite a (Z (G (b,c)) λ(j,l,m,n)=>Z (zo 64 i [q6.mk j.1 j.2.1 j.2.2.1 j.2.2.2 n]) λo=>Z (C (lit [44],l,m)) λ(p,r,s)=>f (Step.next (p,r,s,d,e,o))) (f (Step.done (b,c,d,e,i)))
def qdr(A:vf)(B:wF)(C:yg)(D:Wz)(E:wn)(G:Wz)(x:Yn):Uv ZH:=Z (A x.2) λ(a,b,c)=>Z (B (b,c)) λ(d,e,i)=>Z (C (lit [123],(e,i))) λ(j,l,m)=>Z (lpO (qdp A B C D E G) (j,l,m,(0,lit [],0,0),(1,a.2.1,a.2.2.1,x.1),O [kr d] g)) λ(n,o,p,r,s)=>Z (C (lit [119,104,101,114,101],n,o)) λ(t,u,v)=>Z (lpO (qdq A B C D E G) (t,u,v,(p,r,s))) λ(w,z,_,H,I)=>Z (E (lit [59],w,z)) λ(J,K)=>f (H,J,K,I)
def q6t:Yn->Uv ZH:=qdr q17 q4g q10 q46 q12 q20
theorem qk9:q6t=ztd.F:=by delta q6t;rw[q3t,qjm,q1x,qix,q38,qgp];kernel_rfl
def q7f(A:wc):Int×Int×q6->Uv (Step (Int×Int×q6) Int):=λ(a,b,c)=>ite (q (b < c.K_.len)) (Z (za c.K_ b) λd=>Z (A (kr d)) λe=>f (Step.next (Uw (a+e),Uw (b+1),kr c))) (f (Step.done a))
def qag(A:wc)(x:q6):GV:=Z (lpO (q7f A) (1,0,kr x)) λa=>f a
def qah(h:wc):wc:=qag h
theorem qiy(h:wc):@Eq wc (zi7 h) (qah h):=jO
def q3c:Nat->q6->Uv Int
 |0=>λ_=>Y
 |k+1=>qah (q3c k)
theorem qg6:∀k,@Eq wc (zgz k) (q3c k)
 |0=>rfl
 |k+1=>(qiy (zgz k)).trans (congrArg qah (qg6 k))
def qaw:wc:=q3c 100000
theorem qjn:@Eq wc zyl qaw:=qg6 100000
def q8t(A:zjA)(B:yg)(C:zpH)(D:wn)(E:zpH)(G:wc):zfU->Uv (Step zfU zfU):=λa=>Z (ite (q (a.2.1.2.2.1=0)) (Z (za a.2.2.2.1 a.2.1.1) λb=>Z (za a.2.2.2.1 a.2.1.1) λc=>f (q (c.k_≠0),a)) (f (N,a))) λ(b,c,d,e,i,j)=>ite b (Z (Z (za i d.1) λl=>Z (za i d.1) λm=>Z (B (lit [102,110],d,i)) λ(n,o,p)=>ite n (Z (C (m.a_,(o,p))) λ(r,s,t,u)=>Z (zo 64 j [q6.mk r.1 r.2.1 r.2.2.1 r.2.2.2 u]) λv=>f (c,s,e,t,v)) (Z (D (lit [116,121,112,101],(o,p))) λw=>Z (ite (q (w.1.2.2.1=0)) (Z (E (m.a_,w)) λ(z,H,I,J)=>Z (zo 64 j [q6.mk z.1 z.2.1 z.2.2.1 z.2.2.2 J]) λK=>f (c,H,e,I,K)) (f (c,w.1,e,w.2,j))) λz=>f z)) λl=>f (Step.next l)) (f (Step.done (c,d,e,i,j)))
def qcp(A:zjA)(B:yg)(C:zpH)(D:wn)(E:zpH)(G:wc)(x:Zs):Uv (q6×zA):=Z (A x) λ(a,b,c)=>ite (q (b≠0)) (f (q6.mk 0 (lit []) 0 0 (O [] N),a,b)) (Z (lpO (q8t A B C D E G) ((0,lit [],0,0),(0,0,0,0),(0,lit [],0,0),c,O [] N)) λ(_,d,e,_,i)=>ite (q (d.2.2.1≠0)) (f (q6.mk 0 (lit []) 0 0 (O [] N),d.2.2.2,d.2.2.1)) (Z (G (q6.mk e.1 e.2.1 e.2.2.1 e.2.2.2 i)) λj=>ite (q (4096 < j)) (f (q6.mk 0 (lit []) 0 0 (O [] N),0,22)) (f (q6.mk e.1 e.2.1 e.2.2.1 e.2.2.2 i,0,0))))
def q2w:zeL:=qcp q71 q10 q7e q12 q6t qaw
theorem qg7:q2w=zoO.F:=by delta q2w;rw[qi7,q1x,qkr,q38,qk9,<-qjn];kernel_rfl
def q7h:Int×Int×q6×Uc->Uv (Step (Int×Int×q6×Uc) Uc):=λ(a,b,c,d)=>ite (q (b < c.K_.len)) (Z (za c.K_ b) λe=>Z (ite (q (e.k_=a)) (Z (za c.K_ b) λi=>Z (zo 64 d [kr i]) λj=>f (a,b,kr c,j)) (f (a,b,kr c,d))) λ(i,j,l,m)=>f (Step.next (i,Uw (j+1),kr l,m))) (f (Step.done d))
def q9y(x:q6×Int):Uv Uc:=Z (lpO q7h (x.2,0,kr x.1,O [] N)) λa=>f a
def q1h:zeS:=q9y
theorem qjo:q1h=zoP.F:=jO
def q5z:Ub×zz->Uv (Step (Ub×zz) zeW):=λ(a,b,c)=>ite (q (c < Sl.len a)) (Z (za a c) λd=>ite (q (d.N_=b)) (f (Step.done (y c))) (f (Step.next (a,b,Uw (c+1))))) (f (Step.done (M ())))
def qdf(x:zjT):GV:=Z (lpO q5z (x.1,x.2,0)) λa=>F (λb=>f b) (λb=>f (-1)) a
def q1b:zjT->GV:=qdf
theorem qdz:q1b=zhL.F:=jO
def q54:Uc×zz->Uv (Step (Uc×zz) zeW):=λ(a,b,c)=>ite (q (c < Sl.len a)) (Z (Z (za a c) λd=>ite (q (d.T_=b)) (Z (za a c) λe=>f (a,b,c,q (e.K_.len=0))) (f (a,b,c,N))) λ(d,e,i,j)=>ite j (f (Step.done (y i))) (f (Step.next (d,e,Uw (i+1))))) (f (Step.done (M ())))
def qbx(x:zjU):GV:=Z (lpO q54 (x.1,x.2,0)) λa=>F (λb=>f b) (λb=>f (-1)) a
def q1f:zjU->GV:=qbx
theorem qia:q1f=zoQ.F:=jO
def q8v(x:zaM):Uv (Sl qu):=Z (ite (q (x.1=lit [60])) (f (x.1,x.2.1,x.2.2.1,x.2.2.2.1,x.2.2.2.2,O ([]++[qu.mk x.2.1 x.2.2.1 (Uw (Uw (x.2.2.2.2 - x.2.2.2.1) - 1))]) (N || ![qu.mk x.2.1 x.2.2.1 (Uw (Uw (x.2.2.2.2 - x.2.2.2.1) - 1))].isEmpty))) (f (x.1,x.2.1,x.2.2.1,x.2.2.2.1,x.2.2.2.2,O [] N))) λ(a,b,c,d,e,i)=>Z (ite (q (a=lit [60,61])) (f (a,b,c,d,e,g,i)) (f (a,b,c,d,e,q (a=lit [61,61]),i))) λ(j,l,m,n,o,p,r)=>Z (ite p (Z (zo 24 r [qu.mk l m (Uw (o - n))]) λs=>f (j,l,m,n,o,s)) (f (j,l,m,n,o,r))) λ(s,t,u,v,w,z)=>Z (ite (q (s=lit [61,61])) (Z (zo 24 z [qu.mk u t (Uw (v - w))]) λA=>f A) (f z)) λA=>f A
def q1e:zaM->Uv (Sl qu):=q8v
theorem qiz:q1e=zoR.F:=jO
def q6f(A:zeS)(B:Vg)(C:zeN)(D:zeD):zpK->Uv (Step zpK zzm):=λ(a,b,c,d,e,i,j,l,m,n)=>ite (q (b < a)) (Z (za e b) λo=>Z (za e b) λp=>ite (q (p.T_=m.T_)) (f (Step.done (y (m.a_,30,c,l,n)))) (f (Step.next (a,Uw (b+1),c,d,e,i,kr j,l,kr m,n)))) (f (Step.done (M (a,c,d,e,i,kr j,l,kr m,n))))
def q59(A:zeS)(B:Vg)(C:zeN)(D:zeD):zpL->Uv (Step zpL zzr):=λa=>ite (q (a.1 < Sl.len a.2.2.2.1)) (Z (Z (za a.2.2.2.1 a.1) λb=>Z (za a.2.2.2.1 a.1) λc=>Z (lpO (q6f A B C D) (a.1,0,a.2.1,a.2.2.1,a.2.2.2.1,a.2.2.2.2.1,kr a.2.2.2.2.2.1,a.2.2.2.2.2.2.1,kr c,a.2.2.2.2.2.2.2)) λd=>F (λe=>f (y e)) (λe=>Z (ite (q (0 < e.2.2.2.2.2.2.2.1.K_.len)) (Z (za e.2.2.2.2.2.2.2.1.K_ 0) λi=>Z (C (e.2.2.2.1,i.T_)) λj=>Z (ite (q (e.2.2.2.2.2.1.T_≠lit [111,119,110])) (f (e.1,j,g,e.2.1,e.2.2.1,e.2.2.2.1,e.2.2.2.2.1,kr e.2.2.2.2.2.1,e.2.2.2.2.2.2.1,kr e.2.2.2.2.2.2.2.1,e.2.2.2.2.2.2.2.2)) (f (e.1,j,q (j < 0),e.2.1,e.2.2.1,e.2.2.2.1,e.2.2.2.2.1,kr e.2.2.2.2.2.1,e.2.2.2.2.2.2.1,kr e.2.2.2.2.2.2.2.1,e.2.2.2.2.2.2.2.2))) λl=>ite l.2.2.1 (f (y (l.2.2.2.2.2.2.2.2.2.1.a_,32,l.2.2.2.1,l.2.2.2.2.2.2.2.2.1,l.2.2.2.2.2.2.2.2.2.2))) (f (M (l.1,l.2.1,l.2.2.2.1,l.2.2.2.2.1,l.2.2.2.2.2.1,l.2.2.2.2.2.2.1,kr l.2.2.2.2.2.2.2.1,l.2.2.2.2.2.2.2.2.1,kr l.2.2.2.2.2.2.2.2.2.1,l.2.2.2.2.2.2.2.2.2.2)))) (f (M (e.1, -1,e.2.1,e.2.2.1,e.2.2.2.1,e.2.2.2.2.1,kr e.2.2.2.2.2.1,e.2.2.2.2.2.2.1,kr e.2.2.2.2.2.2.2.1,e.2.2.2.2.2.2.2.2)))) λi=>F (λj=>f (y j)) (λj=>Z (zo 24 j.2.2.2.2.2.2.2.2.2 [qn.mk j.2.2.2.2.2.2.2.2.1.T_ j.2.1]) λl=>f (M (j.1,j.2.2.1,j.2.2.2.1,j.2.2.2.2.1,j.2.2.2.2.2.1,kr j.2.2.2.2.2.2.1,j.2.2.2.2.2.2.2.1,l))) i) d) λb=>F (λc=>f (Step.done (y c))) (λc=>f (Step.next (Uw (c.1+1),c.2.1,c.2.2.1,c.2.2.2.1,c.2.2.2.2.1,kr c.2.2.2.2.2.1,c.2.2.2.2.2.2))) b) (f (Step.done (M (a.2.1,a.2.2.1,a.2.2.2.1,a.2.2.2.2.1,kr a.2.2.2.2.2.1,a.2.2.2.2.2.2))))
def qax(A:zeS)(B:Vg)(C:zeN)(D:zeD):zpI->Uv (Step zpI tA4):=λa=>ite (q (a.2.2.1 < 2)) (Z (Z (za a.2.2.2.2.2.2.1 a.2.1) λb=>Z (za a.2.2.2.2.2.2.1 a.2.1) λc=>Z (za c.K_ a.2.2.1) λd=>ite (q (d.T_=lit [])) (f (y a)) (Z (C (a.2.2.2.2.2.1,d.T_)) λe=>Z (ite (q (e < 0)) (f (a.1,a.2.1,a.2.2.1,e,g,a.2.2.2)) (f (a.1,a.2.1,a.2.2.1,e,q (e=a.1),a.2.2.2))) λi=>ite i.2.2.2.2.1 (Z (za i.2.2.2.2.2.2.2.2.1 i.2.1) λj=>Z (za i.2.2.2.2.2.2.2.2.1 i.2.1) λl=>f (M (l.a_,33,i.2.2.2.2.2.1,i.2.2.2.2.2.2.2.2.2.1,i.2.2.2.2.2.2.2.2.2.2.2))) (Z (za i.2.2.2.2.2.2.2.2.2.2.1 i.2.2.1) λm=>Z (za i.2.2.2.2.2.2.2.2.2.2.1 i.2.2.1) λn=>f (y (i.1,i.2.1,i.2.2.1,i.2.2.2.2.2.1,i.2.2.2.2.2.2.1,i.2.2.2.2.2.2.2.1,i.2.2.2.2.2.2.2.2.1,i.2.2.2.2.2.2.2.2.2.1,Sl.set i.2.2.2.2.2.2.2.2.2.2.1 i.2.2.1 (Uw (i.2.2.2.1+1)),i.2.2.2.2.2.2.2.2.2.2.2))))) λb=>F (λc=>f (Step.next (c.1,c.2.1,Uw (c.2.2.1+1),c.2.2.2))) (λc=>f (Step.done (y c))) b) (f (Step.done (M (a.1,a.2.1,a.2.2.2))))
def q6g(A:zeS)(B:Vg)(C:zeN)(D:zeD):Int×Int×Int×Ub×zr×Uc×Uc×zr×Sl qu×Up->Uv (Step (Int×Int×Int×Ub×zr×Uc×Uc×zr×Sl qu×Up) (Int×Int×Ub×zr×Uc×Uc×zr×Up)):=λ(a,b,c,d,e,i,j,l,m,n,o)=>ite (q (c < Sl.len m)) (Z (za m c) λp=>Z (za m c) λr=>Z (zo 24 o [r]) λs=>f (Step.next (a,b,Uw (c+1),d,e,i,j,l,m,n,s))) (f (Step.done (a,b,d,e,i,j,l,(n,o))))
def q4h(A:zeS)(B:Vg)(C:zeN)(D:zeD):Int×Int×Ub×zr×Uc×Uc×zr×Up->Uv (Step (Int×Int×Ub×zr×Uc×Uc×zr×Up) zzs):=λ(a,b,c,d,e,i,j,l,m)=>ite (q (b < Sl.len i)) (Z (lpO (qax A B C D) (a,b,0,c,d,e,i,j,O [0,0] g,(l,m))) λn=>F (λo=>f (Step.done (y o))) (λ(o,p,r,s,t,u,v,w,z,E)=>Z (za u p) λG=>Z (za u p) λH=>Z (za w 0) λI=>Z (za w 0) λJ=>Z (za w 1) λK=>Z (za w 1) λL=>Z (za u p) λP=>Z (za u p) λQ=>Z (za Q.K_ 0) λR=>Z (za u p) λS=>Z (za u p) λT=>Z (za T.K_ 1) λU=>Z (D (H.T_,J,L,R.n_,U.n_)) λW=>Z (lpO (q6g A B C D) (o,p,0,r,s,t,u,v,W,(z,E))) λ(X,x,a2,a3,a4,a5,k,h,a8)=>f (Step.next (X,Uw (x+1),(a2,a3,a4,a5,k,h,a8)))) n) (f (Step.done (M (c,d,(j,l,m)))))
def qay(A:zeS)(B:Vg)(C:zeN)(D:zeD)(x:wH):Uv (qd×Int×Int×Ub):=Z (A (kr x.1,3)) λa=>Z (A (kr x.1,4)) λb=>Z (za x.1.K_ 0) λc=>Z (B (x.2,x.1.T_)) λd=>ite (q (0<=d)) (f (qd.mk x.1.T_ 0 0 (O [] N) (O [] N),x.1.a_,30,x.2)) (ite (q (8 < a.len)) (f (qd.mk x.1.T_ 0 0 (O [] N) (O [] N),x.1.a_,22,x.2)) (Z (lpO (q59 A B C D) (0,x.2,(lit [],0,0),a,b,kr c,(x.1.T_,0,0),O [] N)) λe=>F (λi=>f (qd.mk i.2.2.2.1.1 i.2.2.2.1.2.1 i.2.2.2.1.2.2 i.2.2.2.2 (O [] N),i.1,i.2.1,i.2.2.1)) (λi=>Z (ite (q (i.2.2.2.2.1.T_=lit [99,101,108,108])) (f (y (-1,i.1,i.2.1,i.2.2.1,i.2.2.2.1,(i.2.2.2.2.2.1.1,1,i.2.2.2.2.2.1.2.2),i.2.2.2.2.2.2))) (Z (ite (q (i.2.2.2.2.1.T_=lit [99,111,117,110,116,101,100])) (f (-1,i.2.2.2.2.1.T_,q (i.2.2.2.2.1.T_=lit [99,111,117,110,116,101,100]),i.1,i.2.1,i.2.2.1,i.2.2.2.1,kr i.2.2.2.2.1,i.2.2.2.2.2)) (f (-1,i.2.2.2.2.1.T_,q (i.2.2.2.2.1.T_=lit [108,111,99,107]),i.1,i.2.1,i.2.2.1,i.2.2.2.1,kr i.2.2.2.2.1,i.2.2.2.2.2))) λj=>Z (ite j.2.2.1 (Z (ite (q (j.2.2.2.2.2.2.2.1.T_=lit [108,111,99,107])) (f (j.2.2.2.1,j.2.2.2.2.1,j.2.2.2.2.2.1,j.2.2.2.2.2.2.1,kr j.2.2.2.2.2.2.2.1,(j.2.2.2.2.2.2.2.2.1.1,3,j.2.2.2.2.2.2.2.2.1.2.2),j.2.2.2.2.2.2.2.2.2)) (f (j.2.2.2.1,j.2.2.2.2.1,j.2.2.2.2.2.1,j.2.2.2.2.2.2.1,kr j.2.2.2.2.2.2.2.1,(j.2.2.2.2.2.2.2.2.1.1,2,j.2.2.2.2.2.2.2.2.1.2.2),j.2.2.2.2.2.2.2.2.2))) λl=>Z (za l.2.2.2.2.1.K_ 0) λm=>Z (C (l.2.2.1,m.T_)) λn=>ite (q (n < 0)) (f (y (l.2.2.2.2.1.a_,32,l.1,l.2.2.2.2.2))) (f (M (n,l.1,l.2.1,l.2.2.1,l.2.2.2.1,(l.2.2.2.2.2.1.1,l.2.2.2.2.2.1.2.1,n),l.2.2.2.2.2.2)))) (Z (ite (q (j.2.1=lit [103,117,97,114,100])) (Z (za j.2.2.2.2.2.2.2.1.K_ 0) λo=>Z (B (j.2.2.2.1,o.T_)) λp=>ite (q (p < 0)) (f (y (j.2.2.2.2.2.2.2.1.a_,31,j.2.2.2.1,(j.2.2.2.2.2.2.2.2.1.1,4,p),j.2.2.2.2.2.2.2.2.2))) (Z (za j.2.2.2.1 p) λr=>Z (za j.2.2.2.1 p) λs=>ite (q (s.S_≠3)) (f (y (j.2.2.2.2.2.2.2.1.a_,31,j.2.2.2.1,(j.2.2.2.2.2.2.2.2.1.1,4,p),j.2.2.2.2.2.2.2.2.2))) (Z (ite (q (0 < Sl.len j.2.2.2.2.2.1)) (f (j.1,g,j.2.2.2.1,j.2.2.2.2.1,j.2.2.2.2.2.1,j.2.2.2.2.2.2.1,kr j.2.2.2.2.2.2.2.1,(j.2.2.2.2.2.2.2.2.1.1,4,p),j.2.2.2.2.2.2.2.2.2)) (f (j.1,q (0 < Sl.len j.2.2.2.2.2.2.1),j.2.2.2.1,j.2.2.2.2.1,j.2.2.2.2.2.1,j.2.2.2.2.2.2.1,kr j.2.2.2.2.2.2.2.1,(j.2.2.2.2.2.2.2.2.1.1,4,p),j.2.2.2.2.2.2.2.2.2))) λt=>ite t.2.1 (f (y (t.2.2.2.2.2.2.1.a_,32,t.2.2.1,t.2.2.2.2.2.2.2))) (f (M (t.1,t.2.2.1,t.2.2.2.1,t.2.2.2.2.1,t.2.2.2.2.2.1,t.2.2.2.2.2.2.2)))))) (f (M (j.1,j.2.2.2.1,j.2.2.2.2.1,j.2.2.2.2.2.1,j.2.2.2.2.2.2.1,j.2.2.2.2.2.2.2.2)))) λo=>F (λp=>f (y p)) (λp=>f (M p)) o)) λl=>F (λm=>f (M m)) (λm=>f (y m)) l)) λj=>F (λl=>Z (lpO (q4h A B C D) (l.1,0,l.2.1,l.2.2.1,l.2.2.2.1,l.2.2.2.2.1,l.2.2.2.2.2.1,l.2.2.2.2.2.2,O [] N)) λm=>F (λn=>f (qd.mk n.2.2.2.1.1 n.2.2.2.1.2.1 n.2.2.2.1.2.2 n.2.2.2.2.1 n.2.2.2.2.2,n.1,n.2.1,n.2.2.1)) (λn=>f (qd.mk n.2.2.1.1 n.2.2.1.2.1 n.2.2.1.2.2 n.2.2.2.1 n.2.2.2.2,0,0,n.1)) m) (λl=>f (qd.mk l.2.2.2.1.1 l.2.2.2.1.2.1 l.2.2.2.1.2.2 l.2.2.2.2 (O [] N),l.1,l.2.1,l.2.2.1)) j) e))
def q4p:wH->Uv (qd×Int×Int×Ub):=qay q1h q1b q1f q1e
theorem qka:q4p=ztf.F:=by delta q4p;rw[qjo,qdz,qia,qiz];kernel_rfl
def q5g(A:zvO):Int×wH->Uv (Step (Int×wH) (zA⊕Ub)):=λ(a,b,c)=>ite (q (a < b.K_.len)) (Z (Z (za b.K_ a) λd=>ite (q (d.k_≠1)) (f (y (a,kr b,c))) (Z (za b.K_ a) λe=>Z (A (kr e,c)) λ(i,j,l,m)=>ite (q (l≠0)) (f (M (j,l))) (Z (zo 80 m [i]) λn=>f (y (a,kr b,n))))) λd=>F (λ(e,i,j)=>f (Step.next (Uw (e+1),kr i,j))) (λe=>f (Step.done (y e))) d) (f (Step.done (M c)))
def q8w(A:zvO)(x:q6):Uv (Int×Int×Ub):=Z (lpO (q5g A) (0,kr x,O [] N)) λa=>F (λ(b,c)=>f (b,c,O [] N)) (λb=>f (0,0,b)) a
def q3d:zjK:=q8w q4p
theorem qj0:q3d=ztg.F:=by delta q3d;rw[qka];kernel_rfl
def q9z(A:Vg)(x:wH):Uv (qi×Bool):=Z (ite (q (x.1.T_=lit [105,110,116])) (f (x.2,kr x.1,qi.mk (lit []) 0 0,qi.mk (lit []) 1 0)) (Z (ite (q (x.1.T_=lit [111,119,110])) (f (x.2,kr x.1,qi.mk (lit []) 0 0,qi.mk (lit []) 2 0)) (Z (ite (q (x.1.T_=lit [38])) (f (x.2,kr x.1,qi.mk (lit []) 0 0,qi.mk (lit []) 3 0)) (Z (ite (q (x.1.T_=lit [38,109,117,116])) (f (x.2,kr x.1,qi.mk (lit []) 0 0,qi.mk (lit []) 4 0)) (f (x.2,kr x.1,qi.mk (lit []) 0 0,qi.mk (lit []) 0 0))) λ(a,b,c,d)=>f (a,kr b,(c,d)))) λ(a,b,c,d)=>f (a,kr b,(c,d)))) λ(a,b,c,d)=>f (a,kr b,(c,d)))) λ(a,b,c,d)=>Z (ite (q (1 < d.M_)) (Z (za b.K_ 0) λe=>Z (A (a,e.T_)) λi=>ite (q (i < 0)) (f (y (N,qi.mk (lit []) 0 0))) (f (M (c,qi.mk d.N_ d.M_ i)))) (f (M (c,d)))) λe=>F (λ(i,j)=>f (j,i)) (λ(_,i)=>f (i,g)) e
def q2d:wH->Uv (qi×Bool):=q9z q1b
theorem qjp:q2d=zth.F:=by delta q2d;rw[qdz];kernel_rfl
def q6h(A:zjI):Ub×Int×Int×Int×q6×GR×GR×q6×Sl qi->Uv (Step (Ub×Int×Int×Int×q6×GR×GR×q6×Sl qi) zzl):=λ(a,b,c,d,e,i,j,l,m)=>ite (q (d < c)) (Z (za e.K_ d) λn=>ite (q (n.T_=l.T_)) (f (Step.done (y (l.a_,30,lit [],lit [],0,0)))) (f (Step.next (a,b,c,Uw (d+1),kr e,i,j,kr l,m)))) (f (Step.done (M (a,b,c,kr e,i,j,kr l,m))))
def q6i(A:zjI):Ub×Int×Int×Int×q6×GR×GR×q6×qi×Sl qi->Uv (Step (Ub×Int×Int×Int×q6×GR×GR×q6×qi×Sl qi) tA7):=λ(a,b,c,d,e,i,j,l,m,n)=>ite (q (d < c)) (Z (za n d) λo=>Z (za n d) λp=>Z (ite (q (1 < m.M_)) (ite (q (1 < p.M_)) (ite (q (m.t_=p.t_)) (Z (za a m.t_) λr=>f (a,b,c,d,q (r.S_≠0),kr e,i,j,kr l,(m,n))) (f (a,b,c,d,N,kr e,i,j,kr l,(m,n)))) (f (a,b,c,d,N,kr e,i,j,kr l,(m,n)))) (f (a,b,c,d,N,kr e,i,j,kr l,(m,n)))) λ(r,s,t,u,v,w,z,B,C,D,E)=>ite v (Z (za C.K_ 0) λG=>f (Step.done (y (G.a_,34,lit [],lit [],0,0)))) (f (Step.next (r,s,t,Uw (u+1),kr w,z,B,kr C,(D,E))))) (f (Step.done (M (a,b,c,kr e,i,j,kr l,(m,n)))))
def q6j(A:zjI):Ub×Int×Int×q6×GR×GR×Sl qi->Uv (Step (Ub×Int×Int×q6×GR×GR×Sl qi) zzp):=λ(a,b,c,d,e,i,j)=>ite (q (c < b)) (Z (Z (za d.K_ c) λl=>Z (lpO (q6h A) (a,b,c,0,kr d,e,i,kr l,j)) λm=>F (λn=>f (y n)) (λ(n,o,p,r,s,t,u,v)=>Z (za u.K_ 0) λw=>Z (A (kr w,n)) λ(z,B)=>ite (!B) (Z (za u.K_ 0) λC=>f (y (C.a_,31,lit [],lit [],0,0))) (Z (lpO (q6i A) (n,o,p,0,kr r,s,t,kr u,z,v)) λD=>F (λE=>f (y E)) (λ(E,G,H,I,J,K,L,P,Q)=>Z (zo 32 Q [qi.mk L.T_ P.M_ P.t_]) λR=>f (M (E,G,H,kr I,J,K,R))) D)) m) λl=>F (λm=>f (Step.done (y m))) (λ(m,n,o,p,r,s,t)=>f (Step.next (m,n,Uw (o+1),kr p,(r,s,t)))) l) (f (Step.done (M (a,b,kr d,(e,i,j)))))
def qaz(A:zjI)(x:wH):Uv (qj×zA):=ite (q (8 < Uw (x.1.K_.len - 2))) (f (qj.mk (lit []) (O [] N) (qi.mk (lit []) 0 0),x.1.a_,22)) (Z (lpO (q6j A) (x.2,Uw (x.1.K_.len - 2),0,kr x.1,(lit [],lit [],0,0),(x.1.T_,lit [],0,0),O [] N)) λa=>F (λ(b,c,d,e,i,j)=>f (qj.mk d (O [] N) (qi.mk e i j),b,c)) (λ(b,c,d,_,e,i)=>Z (za d.K_ c) λj=>Z (A (kr j,b)) λ(l,m)=>ite (!m) (Z (za d.K_ c) λn=>f (qj.mk (lit []) (O [] N) (qi.mk (lit []) 0 0),n.a_,31)) (f (qj.mk e.1 i l,0,0))) a)
def q4q:wH->Uv (qj×zA):=qaz q2d
theorem qkb:q4q=zti.F:=by delta q4q;rw[qjp];kernel_rfl
def q60(A:zv0):Ub×Int×q6×Sl qj->Uv (Step (Ub×Int×q6×Sl qj) (zA⊕Sl qj)):=λ(a,b,c,d)=>ite (q (b < c.K_.len)) (Z (Z (za c.K_ b) λe=>ite (q (e.k_≠6)) (f (y (a,b,kr c,d))) (Z (za c.K_ b) λi=>Z (A (kr i,a)) λ(j,l,m)=>ite (q (m≠0)) (f (M (l,m))) (Z (zo 72 d [j]) λn=>f (y (a,b,kr c,n))))) λe=>F (λ(i,j,l,m)=>f (Step.next (i,Uw (j+1),kr l,m))) (λi=>f (Step.done (y i))) e) (f (Step.done (M d)))
def qa0(A:zv0)(x:wH):Uv (Int×Int×Sl qj):=Z (lpO (q60 A) (x.2,0,kr x.1,O [] N)) λa=>F (λ(b,c)=>f (b,c,O [] N)) (λb=>f (0,0,b)) a
def q31:wH->Uv (Int×Int×Sl qj):=qa0 q4q
theorem qjq:q31=ztj.F:=by delta q31;rw[qkb];kernel_rfl
def q50(A:zeK)(B:zjJ)(C:zvU)(D:zeL)(E:zjK)(G:zvV):Int×Int×Ua×Int×Int×Sl qf×q6×Sl qj×(Uf×Ub)×Ua×Uc->Uv (Step (Int×Int×Ua×Int×Int×Sl qf×q6×Sl qj×(Uf×Ub)×Ua×Uc) (Int×Int×Sl qf×Sl qj×(Uf×Ub)×Ua×Uc)):=λ(a,b,c,d,e,i,j,l,m,n,o)=>ite (q (e < d)) (Z (za c e) λp=>Z (ite (q (p.k_=6)) (Z (zo 64 n [ke p]) λr=>Z (za j.K_ e) λs=>Z (zo 64 o [kr s]) λt=>f (a,b,c,d,e,i,kr j,l,m,r,t)) (f (a,b,c,d,e,i,kr j,(l,m,n,o)))) λ(r,s,t,u,v,w,z,H,I,J,K)=>f (Step.next (r,s,t,u,Uw (v+1),w,kr z,(H,I,J,K)))) (f (Step.done (a,b,i,(l,m,n,o))))
def q82(A:zeK)(B:zjJ)(C:zvU)(D:zeL)(E:zjK)(G:zvV)(x:Zs):Uv (q13×Bool):=Z (A x) λ(a,_,b)=>ite (q (b≠0)) (f (q13.mk (O [] N) (O [] N) (O [] N) (O [] N) (O [] N) (O [] N),N)) (Z (B (ke a)) λ(_,c,d)=>Z (C (ke a,d)) λ(_,e,i)=>Z (D x) λ(j,_,_)=>Z (E (kr j)) λ(_,_,l)=>Z (G (kr j,l)) λ(_,_,m)=>Z (lpO (q50 A B C D E G) (c,e,a.K_,a.K_.len,0,i,kr j,m,(d,l),O [] N,O [] N)) λ(n,o,p,r,s,t,u)=>Z (ite (q (n=0)) (ite (q (o=0)) (ite (q (Sl.len p=Sl.len t)) (f (q (Sl.len r=Sl.len t),s,t,p,u,r)) (f (N,s,t,p,u,r))) (f (N,s,t,p,u,r))) (f (N,s,t,p,u,r))) λ(v,w,z,H,I,J)=>f (q13.mk z w.1 H I w.2 J,v))
def q3l:zjM:=q82 q6d q77 q7v q2w q3d q31
theorem qhv:q3l=ztk.F:=by delta q3l;rw[<-qip,<-qlp,qm2,qg7,qj0,qjq];kernel_rfl
def qdg(x:zju):Uv x6:=ite (!x.1) (f (y ((x.2.2.1.2.2,x.2.1),x.2.2))) (f (M x.2.2))
def q3p:zju->Uv x6:=qdg
theorem qgq:q3p=zlc.F:=jO
def qby(A:zuM)(x:zp3):Uv x6:=Z (A (x.2.1,x.2.2.1,(x.2.2.2.1.1,x.2.2.2.1.2.1,x.1.a_),x.2.2.2.2)) λa=>F (λb=>f (y b)) (λb=>f (M b)) a
def q2a:zp3->Uv x6:=qby q3p
theorem qfb:q2a=zoS.F:=by delta q2a;rw[qgq];kernel_rfl
def qem(x:zjZ):Uv Z6:=f (q (x.1.N_=x.2),x.2)
def q87:zjZ->Uv Z6:=qem
theorem ql6:q87=zoT.F:=jO
def q6v(A:zvR):Sl qh×Int×yB->Uv (Step (Sl qh×Int×yB) zaP):=λ(a,b,c,d)=>ite (q (c < b)) (Z (za a c) λe=>Z (A (e,d)) λ(i,j)=>ite i (f (Step.done (y (c,j)))) (f (Step.next (a,b,Uw (c+1),j)))) (f (Step.done (M d)))
def qeb(A:zvR)(x:zjV):Uv yB:=Z (lpO (q6v A) (x.1,Sl.len x.1,0,x.2)) λa=>F (λb=>f b) (λb=>f (-1,b)) a
def qch:zjV->Uv yB:=qeb q87
theorem qks:qch=ztl.F:=by delta qch;rw[ql6];kernel_rfl
def qfn(A:zjV->Uv yB)(x:qe×Ut):GV:=Z (A (x.1.V_,x.2)) λ(a,_)=>f a
def q1r:vt:=qfn qch
theorem q86:q1r=zcj.F:=by delta q1r;rw[qks];kernel_rfl
def q4w(A:zmh)(B:vt)(C:zcQ)(D:zuM):Int×Ua×Int×Int×Um×Uq×q8×zz×zz×Sl qh->Uv (Step (Int×Ua×Int×Int×Um×Uq×q8×zz×zz×Sl qh) zzt):=λ(a,b,c,d,e,i,j,l,m,n)=>ite (q (d < c)) (Z (Z (za b d) λo=>Z (za o.K_ 0) λp=>Z (B (qe.mk m.1 m.2 n,o.T_)) λr=>Z (A (ke o,q (r < 0),30,e,i)) λs=>F (λt=>f (y t)) (λt=>Z (ite (q (p.T_=lit [105,110,116])) (Z (A (ke p,g,34,t)) λu=>F (λv=>f (y v)) (λ(v,w)=>f (M (a,b,c,d,v,w,ke j,l,m,ke o,ke p,n))) u) (Z (A (ke p,q (p.T_=lit [111,119,110]),34,t)) λv=>F (λw=>f (y w)) (λ(w,z)=>f (M (a,b,c,d,w,z,ke j,l,m,ke o,ke p,n))) v)) λu=>F (λv=>f (y v)) (λ(v,w,z,E,G,H,I,J,K,L,P,Q)=>Z (ite (q (P.T_=lit [111,119,110])) (Z (za P.K_ 0) λR=>Z (C (G.2.1,R.T_)) λS=>Z (D (q (0<=S),31,G,H)) λT=>F (λU=>f (y U)) (λ(U,W)=>f (M (v,w,z,E,U,W,ke I,J,K,qh.mk L.T_ 2 S,Q))) T) (f (M (v,w,z,E,G,H,ke I,J,K,qh.mk L.T_ 1 0,Q)))) λR=>F (λS=>f (y S)) (λ(S,T,U,W,X,x,a2,a3,a4,a5,k)=>Z (zo 32 k [a5]) λh=>f (M (S,T,U,W,X,x,ke a2,a3,a4,h))) R) u) s) λo=>F (λp=>f (Step.done (y p))) (λ(p,r,s,t,u,v,w,z,E,G)=>f (Step.next (p,r,s,Uw (t+1),u,v,ke w,(z,E,G)))) o) (f (Step.done (M (a,e,i,ke j,(l,m,n)))))
def qa1(A:zmh)(B:vt)(C:zcQ)(D:zuM)(x:zqf):Uv zml:=Z (A (ke x.1,q (Uw (x.1.K_.len - 2)<=8),22,x.2)) λa=>F (λb=>f (y b)) (λ(b,c)=>Z (z8 x.1.K_ 0 (Uw (x.1.K_.len - 2))) λd=>Z (lpO (q4w A B C D) (Uw (x.1.K_.len - 2),d,d.len,0,b,c,ke x.1,(lit [],0),(x.1.T_,Uw (x.1.K_.len - 2)),O [] N)) λe=>F (λi=>f (y i)) (λ(i,j,l,m,_,n,o)=>Z (za m.K_ i) λp=>Z (za m.K_ i) λr=>Z (A (ke p,q (r.T_=lit []),35,j,l)) λs=>F (λt=>f (y t)) (λ(t,u)=>f (M (n,t,u,o))) s) e) a
def q3q:zqf->Uv zml:=qa1 q2a q1r q2l q3p
theorem qjr:q3q=ztm.F:=by delta q3q;rw[qfb,q86,qci,qgq];kernel_rfl
def qbz(x:zjo):Uv zQ:=ite (!x.1) (f (y ((x.2.2.1.2.2.1,x.2.1),x.2.2))) (f (M x.2.2))
def q18:zjo->Uv zQ:=qbz
theorem q39:q18=Wp.F:=jO
def q8z(A:vt)(B:ve)(x:zp4):Uv vg:=Z (za x.2.2 x.2.1.2.2.2) λa=>Z (za x.2.2 x.2.1.2.2.2) λb=>Z (A (qe.mk a.N_ a.P_ b.V_,x.1)) λc=>Z (B (q (0<=c),31,x.2)) λd=>F (λe=>f (y e)) (λe=>Z (za e.2 e.1.2.2.2) λi=>Z (za e.2 e.1.2.2.2) λj=>Z (za j.V_ c) λl=>Z (za e.2 e.1.2.2.2) λm=>Z (za m.V_ c) λn=>f (M (qh.mk (lit []) n.M_ n.t_,e))) d
def q4x:zp4->Uv vg:=q8z q1r q18
theorem qg8:q4x=zoU.F:=by delta q4x;rw[q86,q39];kernel_rfl
def qc0(x:qf×q8):Uv (Bool×q8):=f (q (x.1.N_=x.2.T_),ke x.2)
def q5k:zv7:=qc0
theorem qib:q5k=zoV.F:=jO
def q88(A:zv7):Sl qf×Int×Int×q8->Uv (Step (Sl qf×Int×Int×q8) (Int×q8⊕q8)):=λ(a,b,c,d)=>ite (q (c < b)) (Z (za a c) λe=>Z (A (e,ke d)) λ(i,j)=>ite i (f (Step.done (y (c,ke j)))) (f (Step.next (a,b,Uw (c+1),ke j)))) (f (Step.done (M (ke d))))
def qd1(A:zv7)(x:Sl qf×q8):Uv (Int×q8):=Z (lpO (q88 A) (x.1,Sl.len x.1,0,ke x.2)) λa=>F (λ(b,c)=>f (b,ke c)) (λb=>f (-1,ke b)) a
def q8r:Sl qf×q8->Uv (Int×q8):=qd1 q5k
theorem qle:q8r=ztn.F:=by delta q8r;rw[qib];kernel_rfl
def qb1(A:ve)(B:zzn)(x:zp9):Uv zQ:=ite (q (x.1.T_=lit [])) (Z (A (q (x.2.1.M_=1),40,x.2.2)) λa=>F (λb=>f (y b)) (λb=>f (M b)) a) (Z (B (x.1.T_,x.2.2)) λb=>F (λc=>f (y c)) (λ(c,d,e)=>Z (ite (q (x.2.1.M_=1)) (Z (A (q (c.M_=1),40,(d,e))) λi=>F (λj=>f (y j)) (λj=>f (M j)) i) (Z (ite (q (x.2.1.M_=3)) (f (q (c.M_=4),d,e,ke x.1,x.2.1,c)) (f (N,d,e,ke x.1,x.2.1,c))) λ(j,l,m,n,o,p)=>Z (ite j (Z (ite (q (n.n_=0)) (Z (A (q (p.t_=o.t_),40,l,m)) λr=>F (λs=>f (y s)) (λs=>f (M s)) r) (Z (A (N,40,l,m)) λs=>F (λt=>f (y t)) (λt=>f (M t)) s)) λr=>F (λs=>f (y s)) (λs=>f (M s)) r) (Z (ite (q (n.n_=0)) (ite (q (p.M_=o.M_)) (Z (A (q (p.t_=o.t_),40,l,m)) λs=>F (λt=>f (y t)) (λt=>f (M t)) s) (Z (A (N,40,l,m)) λt=>F (λu=>f (y u)) (λu=>f (M u)) t)) (Z (A (N,40,l,m)) λu=>F (λv=>f (y v)) (λv=>f (M v)) u)) λs=>F (λt=>f (y t)) (λt=>f (M t)) s)) λr=>F (λs=>f (y s)) (λs=>f (M s)) r)) λi=>F (λj=>f (y j)) (λj=>f (M j)) i) b)
def q1j:zp9->Uv zQ:=qb1 q18 q4x
theorem qee:q1j=zfF.F:=by delta q1j;rw[q39,qg8];kernel_rfl
def q7i(A:ve)(B:zfT):Sl qh×Ua×Int×Int×GP->Uv (Step (Sl qh×Ua×Int×Int×GP) zQ):=λ(a,b,c,d,e,i)=>ite (q (d < c)) (Z (za b d) λj=>Z (za a d) λl=>Z (B (ke j,l,(e,i))) λm=>F (λn=>f (Step.done (y n))) (λn=>f (Step.next (a,b,c,Uw (d+1),n))) m) (f (Step.done (M (e,i))))
def qa2(A:ve)(B:zfT)(x:zjn):Uv zQ:=Z (A (q (Sl.len x.1=Sl.len x.2.1),51,x.2.2)) λa=>F (λb=>f (y b)) (λb=>Z (lpO (q7i A B) (x.2.1,x.1,Sl.len x.1,0,b)) λc=>F (λd=>f (y d)) (λd=>f (M d)) c) a
def q6k:zjn->Uv zQ:=qa2 q18 q1j
theorem qjs:q6k=zto.F:=by delta q6k;rw[q39,qee];kernel_rfl
def qa3(A:Sl qf×q8->Uv (Int×q8))(B:ve)(C:zjn->Uv zQ)(x:zeH):Uv vg:=Z (A (x.2.1.1,ke x.1)) λ(a,b)=>Z (B (q (0<=a),31,x.2)) λc=>F (λd=>f (y d)) (λd=>Z (za d.1.1 a) λe=>Z (C (b.K_,e.P_,d)) λi=>F (λj=>f (y j)) (λj=>Z (za j.1.1 a) λl=>f (M (l.R_,j))) i) c
def q26:zeH->Uv vg:=qa3 q8r q18 q6k
theorem qgr:q26=zhM.F:=by delta q26;rw[qle,q39,qjs];kernel_rfl
def qa4(A:zzn)(B:ve)(C:zpF)(x:zeH):Uv zpM:=Z (ite (q (x.1.k_=5)) (ite (q (x.1.T_=lit [])) (f (y (x.2.1,x.2.2,qh.mk (lit []) 1 0))) (Z (A (x.1.T_,x.2)) λa=>F (λb=>f (M (y b))) (λ(b,c,d)=>Z (ite (q (x.1.n_=0)) (Z (B (g,40,(c,d))) λe=>F (λi=>f (y i)) (λ(i,j)=>f (M (i,j,qh.mk (lit []) 0 0,b))) e) (Z (B (q (b.M_=1),40,(c,d))) λi=>F (λj=>f (y j)) (λ(j,l)=>f (M (j,l,qh.mk (lit []) 0 0,b))) i)) λe=>F (λi=>f (M (y i))) (λ(i,j,_,l)=>f (y (i,j,l))) e) a)) (Z (ite (q (x.1.k_=21)) (f (x.1.k_,q (x.1.k_=21),x.2.1,x.2.2,ke x.1,qh.mk (lit []) 0 0,qh.mk (lit []) 1 0)) (f (x.1.k_,q (x.1.k_=22),x.2.1,x.2.2,ke x.1,qh.mk (lit []) 0 0,qh.mk (lit []) 1 0))) λ(b,c,d,e,i,j,l)=>Z (ite c (Z (Z (za i.K_ 0) λm=>Z (za i.K_ 1) λn=>Z (A (m.T_,d,e)) λo=>F (λp=>f (y p)) (λ(p,r,s)=>Z (A (n.T_,(r,s))) λt=>F (λu=>f (y u)) (λ(u,v,w)=>f (M (v,w,j,l,p,u))) t) o) λm=>F (λn=>f (y n)) (λ(n,o,p,r,s,t)=>Z (ite (q (s.M_=1)) (Z (B (q (t.M_=1),40,n,o)) λu=>F (λv=>f (y v)) (λ(v,w)=>f (M (v,w,p,r))) u) (Z (B (N,40,n,o)) λv=>F (λw=>f (y w)) (λ(w,z)=>f (M (w,z,p,r))) v)) λu=>F (λv=>f (y v)) (λ(v,w,_,z)=>f (M (y (v,w,z)))) u) m) (Z (ite (q (b=26)) (f (b,q (b=26),d,e,ke i,(j,l))) (f (b,q (b=27),d,e,ke i,(j,l)))) λ(n,o,p,r,s,t,u)=>Z (ite o (Z (A (s.T_,p,r)) λv=>F (λw=>f (y w)) (λ(w,z,D)=>Z (B (q (w.M_=2),40,(z,D))) λE=>F (λG=>f (y G)) (λ(G,H)=>Z (ite (q (s.k_=27)) (f (G,H,t,qh.mk w.N_ 4 w.t_)) (f (G,H,t,qh.mk w.N_ 3 w.t_))) λ(I,J,_,K)=>f (M (y (I,J,K)))) E) v) (Z (ite (q (n=28)) (Z (C (ke s,p,r)) λw=>F (λz=>f (y z)) (λ(z,D,E)=>Z (B (q (z.M_≠0),35,(D,E))) λG=>F (λH=>f (y H)) (λ(H,I)=>f (M (y (H,I,z)))) G) w) (f (M (M (p,r,(t,u)))))) λw=>F (λz=>f (y z)) (λz=>F (λD=>f (M (y D))) (λD=>f (M (M D))) z) w)) λv=>F (λw=>f (y w)) (λw=>F (λz=>f (M (y z))) (λz=>f (M (M z))) w) v)) λm=>F (λn=>f (M (y n))) (λn=>F (λo=>f (y o)) (λo=>f (M (M o))) n) m)) λa=>F (λ(b,c,d)=>f (y (d,b,c))) (λb=>F (λc=>f (M c)) (λ(c,d,_,e)=>Z (B (N,50,c,d)) λi=>F (λj=>f (M j)) (λj=>f (y (e,j))) i) b) a
def q2e:zeH->Uv zpM:=qa4 q4x q18 q26
theorem qjt:q2e=zld.F:=by delta q2e;rw[qg8,q39,qgr];kernel_rfl
def qb2(A:vt)(B:ve)(x:zp1):Uv zQ:=Z (za x.2.2.2 x.2.2.1.2.2.2) λa=>Z (za x.2.2.2 x.2.2.1.2.2.2) λb=>Z (A (qe.mk a.N_ a.P_ b.V_,x.1)) λc=>ite (q (0<=c)) (Z (za x.2.2.2 x.2.2.1.2.2.2) λd=>Z (za x.2.2.2 x.2.2.1.2.2.2) λe=>Z (za e.V_ c) λi=>Z (za x.2.2.2 x.2.2.1.2.2.2) λj=>Z (za j.V_ c) λl=>Z (B (q (l.N_=x.1) && (q (l.M_=x.2.1.M_) && (q (l.t_=x.2.1.t_) && g)),40,x.2.2)) λm=>F (λn=>f (y n)) (λn=>f (M n)) m) (Z (za x.2.2.2 x.2.2.1.2.2.2) λn=>Z (za x.2.2.2 x.2.2.1.2.2.2) λo=>Z (zo 32 o.V_ [qh.mk x.1 x.2.1.M_ x.2.1.t_]) λp=>Z (za x.2.2.2 x.2.2.1.2.2.2) λr=>bif q (x.2.2.1.2.2.2=x.2.2.1.2.2.2) then f (M (x.2.2.1,Sl.set x.2.2.2 x.2.2.1.2.2.2 (qe.mk r.N_ r.P_ p))) else Y)
def q3g:zp1->Uv zQ:=qb2 q1r q18
theorem qkc:q3g=zle.F:=by delta q3g;rw[q86,q39];kernel_rfl
def qbe(x:qe×q8):Ud:=f (q (x.1.N_=x.2.T_))
def q55:qe×q8->Ud:=qbe
theorem qhw:q55=zoW.F:=jO
def q7j(A:qe×q8->Ud):Int×Int×Uq×q8->Uv (Step (Int×Int×Uq×q8) zv6):=λ(a,b,c,d)=>ite (q (b < a)) (Z (za c b) λe=>Z (za c b) λi=>Z (za c b) λj=>Z (A (qe.mk i.N_ i.P_ j.V_,ke d)) λl=>ite l (f (Step.done (y (b,c,ke d)))) (f (Step.next (a,Uw (b+1),c,ke d)))) (f (Step.done (M (c,ke d))))
def qca(A:qe×q8->Ud)(x:Uq×q8):Uv (Int×Uq×q8):=Z (lpO (q7j A) (Sl.len x.1,0,x.1,ke x.2)) λa=>F (λ(b,c,d)=>f (b,c,ke d)) (λ(b,c)=>f (-1,b,ke c)) a
def q49:zqb:=qca q55
theorem ql7:q49=zlf.F:=by delta q49;rw[qhw];kernel_rfl
def q6o(A:ve)(B:zfT):(Int×zA)×Ua×Int×Int×GP->Uv (Step ((Int×zA)×Ua×Int×Int×GP) zQ):=λ(a,b,c,d,e,i)=>ite (q (d < c)) (Z (za b d) λj=>Z (za i a.1) λl=>Z (z8 l.V_ a.2.1 a.2.2) λm=>Z (za m d) λn=>Z (za i a.1) λo=>Z (za o.V_ (a.2.1+d)) λp=>Z (B (ke j,p,(e,i))) λr=>F (λs=>f (Step.done (y s))) (λs=>f (Step.next (a,b,c,Uw (d+1),s))) r) (f (Step.done (M (e,i))))
def q8f(A:ve)(B:zfT)(x:zpW):Uv zQ:=Z (za x.2.2.2 x.2.1.1) λa=>Z (z8 a.V_ x.2.1.2.1 x.2.1.2.2) λb=>Z (A (q (Sl.len x.1=x.2.1.2.2 - x.2.1.2.1),51,x.2.2)) λc=>F (λd=>f (y d)) (λd=>Z (lpO (q6o A B) (x.2.1,x.1,Sl.len x.1,0,d)) λe=>F (λi=>f (y i)) (λi=>f (M i)) e) c
def q25:zpW->Uv zQ:=q8f q18 q1j
theorem qic:q25=zlg.F:=by delta q25;rw[q39,qee];kernel_rfl
def q5l(A:zuK)(B:zuH)(C:zpF)(D:zqb)(E:ve)(G:tA8)(H:zfT)(I:zia):Ua×Int×Int×WB->Uv (Step (Ua×Int×Int×WB) zd6):=λ(a,b,c,d,e,i,j,l,m)=>ite (q (i < e)) (Z (za d i) λn=>Z (I (n.K_,j,l)) λo=>F (λp=>f (Step.done (y p))) (λ(p,r)=>f (Step.next (a,b,c,d,e,Uw (i+1),p,r,m))) o) (f (Step.done (M (a,b,c,(j,l,m)))))
def q2b(A:zuK)(B:zuH)(C:zpF)(D:zqb)(E:ve)(G:tA8)(H:zfT)(I:zia):WB->Uv (Step WB zQ):=λ(a,b,c,d,e,i)=>ite (q (c < b)) (Z (za a c) λj=>Z (ite (q (j.k_=10)) (Z (Z (za j.K_ 0) λl=>Z (A (ke l,(d.1,d.2.1,j.a_,d.2.2.2),e)) λm=>F (λn=>Z (B (j.T_,n)) λo=>F (λp=>f (y p)) (λ(p,r)=>f (M (a,b,c,p,r,i))) o) (λn=>f (y n)) m) λl=>F (λm=>f (y m)) (λm=>f (M m)) l) (Z (ite (q (j.k_=20)) (Z (za j.K_ 0) λm=>Z (C (ke m,(d.1,d.2.1,j.a_,d.2.2.2),e)) λn=>F (λo=>f (y o)) (λ(_,o,p)=>f (M (a,b,c,o,p,i))) n) (Z (ite (q (j.k_=19)) (Z (D (e,ke j)) λ(o,p,r)=>Z (E (q (0<=o),31,(d.1,d.2.1,j.a_,d.2.2.2),p)) λs=>F (λt=>f (y t)) (λt=>Z (za t.2 o) λu=>Z (za t.2 o) λv=>Z (za t.2 o) λw=>Z (za t.2 o) λz=>Z (za t.2 o) λJ=>Z (z8 J.V_ 0 z.P_) λK=>Z (G (r.K_,(o,0,z.P_),t)) λL=>F (λP=>f (y P)) (λ(P,Q)=>f (M (a,b,c,P,Q,i))) L) s) (Z (ite (q (j.k_=15)) (f (a,b,c,j.k_,q (j.k_=15),(d.1,d.2.1,j.a_,d.2.2.2),e,i,ke j)) (f (a,b,c,j.k_,q (j.k_=16),(d.1,d.2.1,j.a_,d.2.2.2),e,i,ke j))) λ(t,u,v,w,z,J,K,L,P)=>Z (ite z (Z (za P.K_ 0) λQ=>Z (H (ke Q,L,J,K)) λR=>F (λS=>f (y S)) (λS=>Z (za P.K_ 1) λT=>Z (H (ke T,L,S)) λU=>F (λW=>f (y W)) (λ(W,X)=>Z (z8 P.K_ 2 P.K_.len) λh=>Z (lpO (q5l A B C D E G H I) (t,u,v,h,h.len,0,W,X,L)) λa2=>F (λa3=>f (y a3)) (λa3=>f (M a3)) a2) U) R) (Z (ite (q (w=17)) (Z (E (q (P.K_.len=0),35,J,K)) λS=>F (λT=>f (y T)) (λ(T,U)=>f (M (t,u,v,T,U,L))) S) (Z (ite (q (w=18)) (f (y (t,u,v,J,K,L))) (Z (E (N,50,J,K)) λT=>F (λU=>f (M U)) (λ(U,W)=>f (y (t,u,v,U,W,L))) T)) λT=>F (λU=>f (M U)) (λU=>f (y U)) T)) λS=>F (λT=>f (y T)) (λT=>f (M T)) S)) λQ=>F (λR=>f (y R)) (λR=>f (M R)) Q)) λo=>F (λp=>f (y p)) (λp=>f (M p)) o)) λm=>F (λn=>f (y n)) (λn=>f (M n)) m)) λl=>F (λm=>f (Step.done (y m))) (λ(m,n,o,p,r,s)=>f (Step.next (m,n,Uw (o+1),(p,r,s)))) l) (f (Step.done (M (d,e))))
def q74(A:zuK)(B:zuH)(C:zpF)(D:zqb)(E:ve)(G:tA8)(H:zfT)(I:zia)(x:zvP):Uv zQ:=Z (lpO (q2b A B C D E G H I) (x.1,Sl.len x.1,0,x.2.1,x.2.2,qh.mk (lit []) 1 0)) λa=>F (λb=>f (y b)) (λb=>f (M b)) a
def q5o(h:zcG):zcG:=q74 q2e q3g q26 q49 q18 q25 q1j h
theorem qid(h:zcG):@Eq zcG (zi8 h) (q5o h):=by delta q5o;rw[qjt,qkc,qgr,ql7,q39,qic,qee];kernel_rfl
def q2q:Nat->zvP->Uv zQ
 |0=>λ_=>Y
 |k+1=>q5o (q2q k)
theorem qfc:∀k,@Eq zcG (zgA k) (q2q k)
 |0=>rfl
 |k+1=>(qid (zgA k)).trans (congrArg q5o (qfc k))
def q47:zcG:=q2q 100000
theorem qj1:@Eq zcG zyn q47:=qfc 100000
def qfj(x:q8):Uv q8:=ite (q (x.K_.len=0)) (f (q8.mk 0 (lit []) 0 0 (O [] N))) (Z (za x.K_ 0) λa=>f (ke a))
def q81:zj0:=qfj
theorem qlx:q81=zhN.F:=jO
def qho(x:q8):Uv qz:=f (qz.mk x.T_ x.n_)
def qbb:zcV:=qho
theorem qie:qbb=zhO.F:=jO
def qh2(A:zcV)(x:q8×Int):Uv qz:=ite (q (x.1.K_.len<=x.2)) (f (qz.mk (lit []) 0)) (Z (za x.1.K_ x.2) λa=>Z (A (ke a)) λb=>f b)
def q3e:zqn:=qh2 qbb
theorem qju:q3e=zck.F:=by delta q3e;rw[qie];kernel_rfl
def qej(A:zcV):Ua×Int×Int×Sl qz->Uv (Step (Ua×Int×Int×Sl qz) (Sl qz)):=λ(a,b,c,d)=>ite (q (c < b)) (Z (za a c) λe=>Z (A (ke e)) λi=>Z (zo 24 d [i]) λj=>f (Step.next (a,b,Uw (c+1),j))) (f (Step.done d))
def qhp(A:zcV)(x:q8):Uv (Sl qz):=Z (lpO (qej A) (x.K_,x.K_.len,0,O [] N)) λa=>f a
def qcq:zjS:=qhp qbb
theorem qlc:qcq=zhP.F:=by delta qcq;rw[qie];kernel_rfl
def qcz(x:qm×Sl qm):Uv Vm:=Z (zo 136 x.2 [x.1]) λa=>f (Uw (a.len - 1),a)
def q2z:qm×Sl qm->Uv Vm:=qcz
theorem qe0:q2z=VW.F:=jO
def qd0(A:zqn)(B:zjS)(C:zcV)(D:zg9)(x:zjX):Uv (Sl qm):=Z (ite (q (x.2.1.k_=21)) (f (x.2.1.k_,q (x.2.1.k_=21),x.2.2,ke x.2.1,0,x.1.a_,x.1.T_,lit [],lit [],0,lit [],0,0,N)) (f (x.2.1.k_,q (x.2.1.k_=22),x.2.2,ke x.2.1,0,x.1.a_,x.1.T_,lit [],lit [],0,lit [],0,0,N))) λa=>Z (ite a.2.1 (Z (A (ke a.2.2.2.1,0)) λb=>Z (A (ke a.2.2.2.1,1)) λc=>f (a.2.2.1,(Uw (1+Uw (a.2.2.2.1.k_ - 21)),a.2.2.2.2.2.1,a.2.2.2.2.2.2.1,a.2.2.2.2.2.2.2.1,b.N_,b.n_,c.N_,c.n_,a.2.2.2.2.2.2.2.2.2.2.2.2),O [] N)) (Z (ite (q (a.1=23)) (f (a.2.2.1,(3,a.2.2.2.2.2.1,a.2.2.2.2.2.2.1,a.2.2.2.2.2.2.2.1,lit [],a.2.2.2.1.n_,a.2.2.2.2.2.2.2.2.2.2),O [] N)) (Z (ite (q (a.1=24)) (f (a.2.2.1,(4,a.2.2.2.2.2.1,a.2.2.2.2.2.2.1,a.2.2.2.2.2.2.2.1,a.2.2.2.1.T_,0,a.2.2.2.2.2.2.2.2.2.2),O [] N)) (Z (ite (q (a.1=25)) (Z (A (ke a.2.2.2.1,0)) λd=>f (a.2.2.1,(5,a.2.2.2.2.2.1,a.2.2.2.2.2.2.1,a.2.2.2.1.T_,d.N_,d.n_,a.2.2.2.2.2.2.2.2.2.2),O [] N)) (Z (ite (q (a.1=28)) (Z (B (ke a.2.2.2.1)) λe=>f (a.2.2.1,(12,a.2.2.2.2.2.1,a.2.2.2.2.2.2.1,a.2.2.2.1.T_,a.2.2.2.2.2.2.2.2),e)) (Z (ite (q (a.1=26)) (f (q (a.1=26),a.2.2.1,ke a.2.2.2.1,a.2.2.2.2)) (f (q (a.1=27),a.2.2.1,ke a.2.2.2.1,a.2.2.2.2))) λi=>Z (ite i.1 (f (i.2.1,i.2.2.2.1,i.2.2.2.2.1,i.2.2.2.2.2.1,i.2.2.2.2.2.2.1,i.2.2.1.T_,0,i.2.2.2.2.2.2.2.2.2)) (Z (C (ke i.2.2.1)) λj=>f (i.2.1,i.2.2.2.1,i.2.2.2.2.1,i.2.2.2.2.2.1,i.2.2.2.2.2.2.1,j.N_,j.n_,i.2.2.2.2.2.2.2.2.2))) λj=>f (j.1,j.2,O [] N))) λe=>f e)) λd=>f d)) λd=>f d)) λd=>f d)) λb=>Z (D (qm.mk b.2.1.1 b.2.1.2.1 b.2.1.2.2.1 b.2.1.2.2.2.1 (qz.mk b.2.1.2.2.2.2.1 b.2.1.2.2.2.2.2.1) (qz.mk b.2.1.2.2.2.2.2.2.1 b.2.1.2.2.2.2.2.2.2.1) b.2.2 b.2.1.2.2.2.2.2.2.2.2.1 b.2.1.2.2.2.2.2.2.2.2.2,b.1)) λc=>f c.2
def q79:zjX->Uv (Sl qm):=qd0 q3e qcq qbb q2z
theorem qlf:q79=zlh.F:=by delta q79;rw[qju,qlc,qie,qe0];kernel_rfl
def q5a(A:zqn)(B:zg9)(C:zeP)(x:q8×Sl qm):Uv (Sl qm):=ite (q (x.1.K_.len < 3)) (f x.2) (Z (A (ke x.1,0)) λa=>Z (A (ke x.1,1)) λb=>Z (B (qm.mk 10 x.1.a_ x.1.T_ (lit []) a b (O [] N) 0 N,x.2)) λ(c,d)=>Z (za x.1.K_ 2) λe=>Z (C (ke e,d)) λi=>Z (B (qm.mk 11 x.1.a_ (lit []) (lit []) (qz.mk (lit []) 0) (qz.mk (lit []) 0) (O [] N) c N,i)) λ(j,l)=>Z (za l c) λm=>Z (za l c) λn=>Z (ite (q (x.1.k_=15)) (f (j,q (3 < x.1.K_.len),ke x.1,Sl.set l c (qm.mk n.O_ n.a_ n.X_ n.Y_ n.A_ n.B_ n.Q_ (Sl.len l) n.h_))) (f (j,N,ke x.1,Sl.set l c (qm.mk n.O_ n.a_ n.X_ n.Y_ n.A_ n.B_ n.Q_ (Sl.len l) n.h_)))) λ(o,p,r,s)=>Z (ite p (Z (za r.K_ 3) λt=>Z (C (ke t,s)) λu=>Z (za u o) λv=>Z (za u o) λw=>f (u.set o (qm.mk w.O_ w.a_ w.X_ w.Y_ w.A_ w.B_ w.Q_ u.len w.h_))) (f s)) λt=>f t)
def q2t(h:yM):yM:=q5a q3e q2z h
theorem qgs(h:yM):@Eq yM (zgC h) (q2t h):=by delta q2t;rw[qju,qe0];kernel_rfl
def q67(A:zj0)(B:zjX->Uv (Sl qm))(C:zeP)(D:zqn)(E:zjS)(G:zg9)(x:q8×Sl qm):Uv (Sl qm):=Z (ite (q (x.1.k_=10)) (Z (A (ke x.1)) λa=>Z (B (ke x.1,ke a,x.2)) λb=>f (y b)) (Z (ite (q (x.1.k_=15)) (f (x.1.k_,q (x.1.k_=15),x.2,ke x.1,0,x.1.a_,lit [],x.1.T_,lit [],0,lit [],0,0,N)) (f (x.1.k_,q (x.1.k_=16),x.2,ke x.1,0,x.1.a_,lit [],x.1.T_,lit [],0,lit [],0,0,N))) λ(c:zzA)=>ite c.2.1 (Z (C (ke c.2.2.2.1,c.2.2.1)) λd=>f (y d)) (Z (ite (q (c.1=11)) (Z (D (ke c.2.2.2.1,0)) λe=>Z (D (ke c.2.2.2.1,1)) λi=>f (c.2.2.1,(6,c.2.2.2.2.2.1,c.2.2.2.2.2.2.1,c.2.2.2.2.2.2.2.1,e.N_,e.n_,i.N_,i.n_,c.2.2.2.2.2.2.2.2.2.2.2.2),O [] N)) (Z (ite (q (c.1=12)) (f (c.2.2.1,(7,c.2.2.2.2.2),O [] N)) (Z (ite (q (c.1=13)) (f (c.2.2.1,(8,c.2.2.2.2.2.1,c.2.2.2.2.2.2.1,c.2.2.2.2.2.2.2.1,lit [],c.2.2.2.1.n_,c.2.2.2.2.2.2.2.2.2.2),O [] N)) (Z (ite (q (c.1=14)) (f (c.2.2.1,(9,c.2.2.2.2.2.1,c.2.2.2.2.2.2.1,c.2.2.2.2.2.2.2.1,lit [],c.2.2.2.1.n_,c.2.2.2.2.2.2.2.2.2.2),O [] N)) (Z (ite (q (c.1=20)) (Z (A (ke c.2.2.2.1)) λj=>Z (A (ke c.2.2.2.1)) λl=>Z (E (ke l)) λm=>f (c.2.2.1,(12,c.2.2.2.2.2.1,c.2.2.2.2.2.2.1,j.T_,c.2.2.2.2.2.2.2.2),m)) (Z (ite (q (c.1=19)) (Z (E (ke c.2.2.2.1)) λn=>f (c.2.2.1,(13,c.2.2.2.2.2),n)) (Z (ite (q (c.1=17)) (Z (D (ke c.2.2.2.1,0)) λo=>f (c.2.2.1,14,c.2.2.2.2.2.1,c.2.2.2.2.2.2.1,lit [],o.N_,o.n_,c.2.2.2.2.2.2.2.2.2.2.1,c.2.2.2.2.2.2.2.2.2.2.2.1,c.2.2.2.2.2.2.2.2.2.2.2.2.1,q (0 < c.2.2.2.1.K_.len))) (f (c.2.2.1,15,c.2.2.2.2.2.1,c.2.2.2.2.2.2.1,lit [],c.2.2.2.2.2.2.2.2))) λ(o:zzF)=>f (o.1,o.2,O [] N))) λ(n:vS)=>f n)) λ(j:vS)=>f j)) λ(j:vS)=>f j)) λ(j:vS)=>f j)) λ(j:vS)=>f j)) λ(e:vS)=>f (M e)))) λ(a:Sl qm⊕Sl qm×(Int×Int×Ut×Ut×Ut×Int×Ut×Int×Int×Bool)×Sl qz)=>F (λb=>f b) (λb=>Z (G (qm.mk b.2.1.1 b.2.1.2.1 b.2.1.2.2.1 b.2.1.2.2.2.1 (qz.mk b.2.1.2.2.2.2.1 b.2.1.2.2.2.2.2.1) (qz.mk b.2.1.2.2.2.2.2.2.1 b.2.1.2.2.2.2.2.2.2.1) b.2.2 b.2.1.2.2.2.2.2.2.2.2.1 b.2.1.2.2.2.2.2.2.2.2.2,b.1)) λc=>f c.2) a
def q28(h:yM):yM:=q67 q81 q79 (q2t h) q3e qcq q2z
theorem qh4(h:yM):@Eq yM (zgD h) (q28 h):=by delta q28;rw[qlx,qlf,<-qgs h,qju,qlc,qe0];kernel_rfl
def q8n(A:zeP):Ua×Int×Vm->Uv (Step (Ua×Int×Vm) (Sl qm)):=λ(a,b,c,d)=>ite (q (c < b)) (Z (za a c) λe=>Z (A (ke e,d)) λi=>f (Step.next (a,b,Uw (c+1),i))) (f (Step.done d))
def q8p(A:zeP)(x:q8×Sl qm):Uv (Sl qm):=Z (lpO (q8n A) (x.1.K_,x.1.K_.len,0,x.2)) λa=>f a
def q70(h:yM):yM:=q8p (q28 h)
theorem qkd(h:yM):@Eq yM (zi9 h) (q70 h):=by delta q70;rw[<-qh4 h];kernel_rfl
def q2x:Nat->(q8×Sl qm)->Uv (Sl qm)
 |0=>λ_=>Y
 |k+1=>q70 (q2x k)
theorem qbu:∀k,@Eq yM (zcl k) (q2x k)
 |0=>rfl
 |k+1=>(qkd (zcl k)).trans (congrArg q70 (qbu k))
def q9j:yM:=q2x 100000
theorem qkt:@Eq yM zyt q9j:=qbu 100000
def qe3(A:zeP)(B:zg9):zg3->Uv (Step zg3 (Ut×Ut×zcW×Sl qm)):=λa=>ite (q (a.2.2.1 < a.2.1)) (Z (za a.1 a.2.2.1) λb=>Z (ite (q (b.k_=7)) (Z (zo 16 a.2.2.2.2.2.1 [b.T_]) λc=>f (a.1,a.2.1,a.2.2.1,a.2.2.2.1,a.2.2.2.2.1,c,a.2.2.2.2.2.2)) (Z (ite (q (b.k_=9)) (Z (A (ke b,a.2.2.2.2.2.2)) λd=>Z (B (qm.mk 14 b.a_ (lit []) (lit []) (qz.mk (lit []) 0) (qz.mk (lit []) 0) (O [] N) 0 N,d)) λ(_,e)=>f (a.1,a.2.1,a.2.2.1,a.2.2.2.1,a.2.2.2.2.1,a.2.2.2.2.2.1,e)) (f a)) λd=>f d)) λ(c,d,e,i,j,l,m)=>f (Step.next (c,d,Uw (e+1),(i,j,l,m)))) (f (Step.done a.2.2.2))
def qfk(A:zeP)(B:zg9)(x:q8):Uv q1m:=ite (q (x.k_≠6)) (f (q1m.mk (lit []) (O [] N) (O [] N))) (Z (lpO (qe3 A B) (x.K_,x.K_.len,0,lit [],x.T_,O [] N,O [] N)) λ(_,a,b,c)=>f (q1m.mk a b c))
def q5e:zcU:=qfk q9j q2z
theorem qku:q5e=zoY.F:=by delta q5e;rw[<-qkt,qe0];kernel_rfl
def qb8(A:ve)(x:zpZ):Uv zQ:=Z (A (x.2.1,x.2.2.1,(x.2.2.2.1.1,x.2.2.2.1.2.1,x.1.a_,x.2.2.2.1.2.2.2),x.2.2.2.2)) λa=>F (λb=>f (y b)) (λb=>f (M b)) a
def q40:zpZ->Uv zQ:=qb8 q18
theorem qht:q40=ztr.F:=by delta q40;rw[q39];kernel_rfl
def qdw(x:zjL):Uv Yo:=f (x.1.1,x.1.2,x.2.2.2)
def q6w:zjL->Uv Yo:=qdw
theorem qkf:@Eq ((zjL)->Uv Yo) ztu q6w:=jO
def qct(x:Yo):Uv Yo:=f x
def q62:Yo->Uv Yo:=qct
theorem qj2:@Eq ((Yo)->Uv Yo) ztx q62:=jO
def q7k(A:zmh)(B:zuI)(C:zpX)(D:zia)(E:zcU)(G:zuG)(H:zp6):Ua×Int×Int×q8×Int×Int×GQ->Uv (Step (Ua×Int×Int×q8×Int×Int×GQ) zjk):=λ(a,b,c,d,e,i,j,l)=>ite (q (c < b)) (Z (Z (za a c) λm=>Z (A (ke m,q (m.k_=6),50,(j,l))) λn=>F (λ(o,_,_)=>f (y (o,ke d,e,i))) (λo=>Z (Yf (Z (B (ke m,o)) λp=>F (λ(r,_,_)=>f (y (r,ke d,e,i))) (λ(r,s,t,u)=>Z (zo 48 t [qe.mk r.1 r.2 u]) λv=>f (M (a,b,c,ke d,e,i,s,v))) p) (Z (B (ke m,o)) λp=>F (λ(r,_,_)=>f (y (r,ke d,e,i))) (λ(r,s,t,u)=>Yf (Z (zo 48 t [qe.mk r.1 r.2 u]) λv=>f (M (a,b,c,ke d,e,i,s,v))) (Z (zo 48 t [qe.mk r.1 r.2 u]) λv=>f (M (a,b,c,ke d,e,i,s,v)))) p)) λp=>F (λ(r,s,t,u)=>f (y (r,ke s,(t,u)))) (λ(r,s,t,u,v,w,z,I)=>f (M (r,s,t,ke u,(v,w,z,I)))) p) n) λm=>F (λ(n,o,p,r)=>f (Step.done (y (n,ke o,(p,r))))) (λ(n,o,p,r,s,t,u,v)=>f (Step.next (n,o,Uw (p+1),ke r,(s,t,u,v)))) m) (f (Step.done (M (ke d,(e,i,j,l)))))
def q7l(A:zmh)(B:zuI)(C:zpX)(D:zia)(E:zcU)(G:zuG)(H:zp6):Ua×Int×Int×q8×Int×Int×GQ->Uv (Step (Ua×Int×Int×q8×Int×Int×GQ) zjk):=λ(a,b,c,d,e,i,j,l)=>ite (q (c < b)) (Z (Z (za a c) λm=>Z (za l c) λn=>Z (za m.K_ (Uw (m.K_.len - 1))) λo=>Z (D (o.K_,(j.1,j.2.1,j.2.2,c),l)) λp=>F (λ(r,_,_)=>f (y (r,ke d,e,i))) (λr=>Z (Z (za r.2 r.1.2.2.2) λs=>Z (za r.2 r.1.2.2.2) λt=>ite (q (t.V_.len<=64)) (Z (E (ke m)) λu=>Z (G (ke m,q (u.L_.len<=512),22,r)) λv=>F (λ(w,_,_)=>f (y (w,ke d,e,i))) (λw=>f (M (a,b,c,ke d,e,i,w))) v) (Z (G (ke m,N,22,r)) λw=>F (λ(z,_,_)=>f (y (z,ke d,e,i))) (λz=>f (M (a,b,c,ke d,e,i,z))) w)) λs=>F (λ(t,u,v,w)=>f (y (t,ke u,(v,w)))) (λ(t,u,v,w,z,I,J,K)=>f (M (t,u,v,ke w,(z,I,J,K)))) s) p) λm=>F (λ(n,o,p,r)=>f (Step.done (y (n,ke o,(p,r))))) (λ(n,o,p,r,s,t,u,v)=>f (Step.next (n,o,Uw (p+1),ke r,s,t,(u.1,u.2.1,u.2.2.1),v))) m) (f (Step.done (M (ke d,(e,i,j,l)))))
def qes(A:zmh)(B:zuI)(C:zpX)(D:zia)(E:zcU)(G:zuG)(H:zp6)(x:zqo):Uv Yo:=Z (lpO (q7k A B C D E G H) (x.1.K_,x.1.K_.len,0,ke x.1,0,0,(x.2.1,x.2.2,0),O [] N)) λa=>F (λ(b,_,c,d)=>Z (C (b,c,d,O [] N)) λ(e,i,_)=>f (e,i,O [] N)) (λ(b,c,d,e,i)=>Z (lpO (q7l A B C D E G H) (b.K_,b.K_.len,0,ke b,(c,d,e,i))) λj=>F (λ(l,_,m,n)=>Z (C (l,m,n,O [] N)) λ(o,p,_)=>f (o,p,O [] N)) (λ(_,_,_,_,l)=>Z (H (0,0,l)) λm=>f m) j) a
def q8a:zqo->Uv Yo:=qes q2a q3q q6w q47 q5e q40 q62
theorem qlr:@Eq ((zqo)->Uv Yo) zyz q8a:=by delta q8a;rw[qfb,qjr,<-qkf,<-qj1,qku,qht,<-qj2];kernel_rfl
def qaa(x:zjq):Uv ZB:=Z (ite (q (x.2.2.1.2.2.2=0)) (f ((x.2.2.1.1,x.2.2.1.2.1,x.1,x.2.1),x.2.2.2)) (f x.2.2)) λa=>f a
def q1c:zjq->Uv ZB:=qaa
theorem qe1:q1c=zdK.F:=jO
def q63:Ut×Int×zz×Sl qi->Uv (Step (Ut×Int×zz×Sl qi) zvD):=λ(a,b,c,d)=>ite (q (b < Sl.len d)) (Z (za d b) λe=>Z (za d b) λi=>ite (q (i.N_=a)) (f (Step.done (y (b,c,d)))) (f (Step.next (a,Uw (b+1),(c,d))))) (f (Step.done (M (c,d))))
def qab(x:zjC):Uv zeM:=Z (lpO q63 (x.1,0,x.2)) λa=>F (λb=>f b) (λb=>f (-1,b)) a
def q4i:zjC->Uv zeM:=qab
theorem qjv:q4i=zoZ.F:=jO
def q64(A:zd8)(B:zvq)(C:Vg):Int×Int×Ug×Ur×q6×zz×zz×Sl qi->Uv (Step (Int×Int×Ug×Ur×q6×zz×zz×Sl qi) (Int×Ug×Ur×q6×zz×zz×Sl qi)):=λ(a,b,c,d,e,i,j,l)=>ite (q (b < a)) (Z (za e.K_ b) λm=>Z (za m.K_ 0) λn=>Z (B (m.T_,(j,l))) λ(o,p,r)=>Z (ite (q (0<=o)) (Z (A (m.a_,30,c,d)) λ(s,t)=>f (a,b,s,t,kr e,i,p,kr m,kr n,r)) (f (a,b,c,d,kr e,i,p,kr m,kr n,r))) λ(s,t,u,v,w,z,D,E,G,H)=>Z (ite (q (G.T_=lit [38])) (f (s,t,g,u,v,kr w,z,D,kr G,qi.mk E.T_ 1 0,H)) (f (s,t,q (G.T_=lit [38,109,117,116]),u,v,kr w,z,D,kr G,qi.mk E.T_ 1 0,H))) λ(I,J,K,L,P,Q,R,S,T,U,W)=>Z (ite K (Z (A (T.a_,34,L,P)) λ(X,k)=>f (I,J,X,k,kr Q,R,S,kr T,(U,W))) (f (I,J,L,P,kr Q,R,S,kr T,(U,W)))) λ(X,k,a2,a3,a4,a5,a6,a7,a8,a9)=>Z (ite (q (a7.T_=lit [111,119,110])) (Z (za a7.K_ 0) λb1=>Z (C (a2.2.1,b1.T_)) λb2=>Z (ite (q (b2 < 0)) (Z (A (a7.a_,31,a2,a3)) λ(h,x)=>f (X,k,h,x,kr a4,a5,a6,qi.mk a8.N_ 2 b2,a9)) (f (X,k,a2,a3,kr a4,a5,a6,qi.mk a8.N_ 2 b2,a9))) λ(h,x,b5,b6,b7,b8,b9,c1,c2)=>f (h,x,b5,b6,kr b7,(b8,b9,c1,c2))) (f (X,k,a2,a3,kr a4,a5,a6,(a8,a9)))) λ(b1,b2,h,x,b5,b6,b7,b8,b9)=>Z (zo 32 b9 [b8]) λc1=>f (Step.next (b1,Uw (b2+1),h,x,kr b5,b6,b7,c1))) (f (Step.done (a,c,d,kr e,(i,j,l))))
def qac(A:zd8)(B:zvq)(C:Vg)(x:zg7):Uv (zz×Ug×Ur×Sl qi):=ite (q (8 < Uw (x.1.K_.len - 2))) (Z (A (x.1.a_,22,x.2)) λ(a,b)=>f ((x.1.T_,Uw (x.1.K_.len - 2)),a,b,O [] N)) (Z (lpO (q64 A B C) (Uw (x.1.K_.len - 2),0,x.2.1,x.2.2,kr x.1,(lit [],0),(x.1.T_,Uw (x.1.K_.len - 2)),O [] N)) λ(c,d,e,i,j,l,m)=>Z (za i.K_ c) λn=>Z (ite (q (n.T_≠lit [])) (Z (za i.K_ c) λo=>Z (A (o.a_,35,d,e)) λ(p,r)=>f (p,r,(j,l,m))) (f (d,e,(j,l,m)))) λ(o,p,_,r,s)=>f (r,o,p,s))
def q4j:zg7->Uv (zz×Ug×Ur×Sl qi):=qac q1c q4i q1b
theorem qjw:q4j=ztB.F:=by delta q4j;rw[qe1,qjv,qdz];kernel_rfl
def q56:Int×Ut×Z7->Uv (Step (Int×Ut×Z7) zeU):=λ(a,b,c,d)=>Z (za d a) λe=>Z (za d a) λi=>ite (q (c < i.V_.len)) (Z (za d a) λj=>Z (za d a) λl=>Z (za l.V_ c) λm=>Z (za d a) λn=>Z (za n.V_ c) λo=>ite (q (o.N_=b)) (f (Step.done (y (c,d)))) (f (Step.next (a,b,Uw (c+1),d)))) (f (Step.done (M d)))
def q8g(x:zcS):Uv Z7:=Z (lpO q56 (x.1,x.2.1,0,x.2.2)) λa=>F (λb=>f b) (λb=>f (-1,b)) a
def q2r:zcS->Uv Z7:=q8g
theorem qfd:q2r=zlm.F:=jO
def qa5(A:zp7)(x:zcS):Uv (qi×Z7):=Z (A x) λ(a,b)=>ite (q (a < 0)) (f (qi.mk (lit []) 0 0,31,b)) (Z (za b x.1) λc=>Z (za b x.1) λd=>Z (za d.V_ a) λe=>Z (za b x.1) λi=>Z (za i.V_ a) λj=>Z (za b x.1) λl=>Z (za b x.1) λm=>Z (za m.V_ a) λn=>Z (za b x.1) λo=>Z (za o.V_ a) λp=>f (qi.mk (lit []) j.M_ p.t_,0,b))
def q5b:zcS->Uv (qi×Z7):=qa5 q2r
theorem qgt:q5b=zo0.F:=by delta q5b;rw[qfd];kernel_rfl
def qa6(A:zvF)(x:zqm):Uv Z7:=Z (ite (q (x.2.1.T_=lit [])) (ite (q (x.2.2.1.M_=1)) (f (y (0,x.2.2.2))) (f (y (40,x.2.2.2)))) (f (M (x.1,x.2.2.2,kr x.2.1,x.2.2.1)))) λa=>F (λb=>f b) (λ(b,c,d,e)=>Z (A (b,d.T_,c)) λ(i,j,l)=>ite (q (j≠0)) (f (j,l)) (Z (ite (q (e.M_=1)) (ite (q (i.M_=1)) (f (y (0,l))) (f (y (40,l)))) (f (M (l,kr d,e,i)))) λm=>F (λn=>f n) (λ(n,o,p,r)=>Z (ite (q (p.M_=3)) (f (q (r.M_=4),n,kr o,(p,r))) (f (N,n,kr o,(p,r)))) λ(s,t,u,v,w)=>Z (ite (q (u.n_≠0)) (f (g,t)) (ite (q (w.t_≠v.t_)) (f (g,t)) (ite (q (w.M_≠v.M_)) (f (!s,t)) (f (N,t))))) λ(z,B)=>ite z (f (40,B)) (f (0,B))) m)) a
def q1p:zqm->Uv Z7:=qa6 q5b
theorem qe2:q1p=zln.F:=by delta q1p;rw[qgt];kernel_rfl
def q7m(A:zeE):Int×Uc×Sl qi×Z7->Uv (Step (Int×Uc×Sl qi×Z7) zeU):=λ(a,b,c,d,e)=>ite (q (d < Sl.len b)) (Z (za b d) λi=>Z (za c d) λj=>Z (A (a,kr i,j,e)) λl=>ite (q (l.1≠0)) (f (Step.done (y l))) (f (Step.next (a,b,c,Uw (d+1),l.2)))) (f (Step.done (M e)))
def qa7(A:zeE)(x:zqj):Uv Z7:=ite (q (Sl.len x.2.1≠Sl.len x.2.2.1)) (f (51,x.2.2.2)) (Z (lpO (q7m A) (x.1,x.2.1,x.2.2.1,0,x.2.2.2)) λa=>F (λb=>f b) (λb=>f (0,b)) a)
def q3r:zqj->Uv Z7:=qa7 q1p
theorem qjx:q3r=ztC.F:=by delta q3r;rw[qe2];kernel_rfl
def q4y(A:zvH):Int×Int×Ug×Ur×q6×qi->Uv (Step (Int×Int×Ug×Ur×q6×qi) zzG):=λ(a,b,c,d,e,i)=>ite (q (b < Sl.len c.1)) (Z (za c.1 b) λj=>ite (q (j.N_=e.T_)) (Z (za c.1 b) λl=>Z (A (a,e.K_,l.P_,d)) λ(m,n)=>Z (za c.1 b) λo=>f (Step.done (y (m,c,n,o.R_)))) (f (Step.next (a,Uw (b+1),c,d,kr e,i)))) (f (Step.done (M (c,d,i))))
def qa8(A:zvH)(x:xk):Uv (qi×vp):=Z (lpO (q4y A) (x.1,0,x.2.2.1,x.2.2.2,kr x.2.1,qi.mk (lit []) 0 0)) λa=>F (λ(b,c,d,e)=>f (e,b,c,d)) (λ(b,c,_)=>f (qi.mk (lit []) 0 0,31,b,c)) a
def q32:xk->Uv (qi×vp):=qa8 q3r
theorem qgu:q32=zo1.F:=by delta q32;rw[qjx];kernel_rfl
def qa9(A:zvF)(B:zmk)(x:xk):Uv (qi×vp):=Z (ite (q (x.2.1.k_=5)) (ite (q (x.2.1.T_=lit [])) (f (y (0,x.2.2.1,x.2.2.2,qi.mk (lit []) 1 0))) (Z (A (x.1,x.2.1.T_,x.2.2.2)) λ(a,b,c)=>Z (ite (q (b=0)) (ite (q (x.2.1.n_≠0)) (f (b,q (a.M_≠1),x.2.2.1,c,qi.mk (lit []) 0 0,a)) (f (b,N,x.2.2.1,c,qi.mk (lit []) 0 0,a))) (f (b,N,x.2.2.1,c,qi.mk (lit []) 0 0,a))) λ(d,e,i,j,l,m)=>Z (ite e (f (40,(i,j,l,m))) (f (d,(i,j,l,m)))) λ(n,o,p,_,r)=>f (y (n,o,p,r)))) (Z (ite (q (x.2.1.k_=21)) (f (x.1,x.2.1.k_,q (x.2.1.k_=21),x.2.2.1,x.2.2.2,kr x.2.1,qi.mk (lit []) 0 0,qi.mk (lit []) 1 0)) (f (x.1,x.2.1.k_,q (x.2.1.k_=22),x.2.2.1,x.2.2.2,kr x.2.1,qi.mk (lit []) 0 0,qi.mk (lit []) 1 0))) λ(s,t,u,v,w,z,C,D)=>Z (ite u (Z (za z.K_ 0) λE=>Z (A (s,E.T_,w)) λ(G,H,I)=>ite (q (H≠0)) (f (y (H,v,I,G))) (Z (za z.K_ 1) λJ=>Z (A (s,J.T_,I)) λ(K,L,P)=>ite (q (L≠0)) (f (y (L,v,P,K))) (Z (ite (q (G.M_≠1)) (f (g,v,P,C,D,G)) (f (q (K.M_≠1),v,P,C,D,G))) λ(Q,R,S,_,T,U)=>ite Q (f (y (40,R,S,U))) (f (y (0,R,S,T)))))) (Z (ite (q (t=26)) (f (s,t,q (t=26),v,w,kr z,(C,D))) (f (s,t,q (t=27),v,w,kr z,(C,D)))) λ(W,X,a1,a2,a3,a4,a5,a6)=>Z (ite a1 (Z (A (W,a4.T_,a3)) λ(h,k,a9)=>ite (q (k≠0)) (f (y (k,a2,a9,h))) (ite (q (h.M_≠2)) (f (y (40,a2,a9,h))) (Z (ite (q (a4.k_=27)) (f (a2,a9,a5,qi.mk h.N_ 4 h.t_)) (f (a2,a9,a5,qi.mk h.N_ 3 h.t_))) λ(b1,b2,_,b3)=>f (y (0,b1,b2,b3))))) (ite (q (X=28)) (Z (B (W,kr a4,a2,a3)) λ(b4,b5,b6,b7)=>Z (ite (q (b5=0)) (f (b5,q (b4.M_=0),b6,b7,a5,b4)) (f (b5,N,b6,b7,a5,b4))) λ(b8,b9,c1,c2,c3,c4)=>Z (ite b9 (f (35,(c1,c2,c3,c4))) (f (b8,(c1,c2,c3,c4)))) λ(c5,c6,c7,_,c8)=>f (y (c5,c6,c7,c8))) (f (M (a2,a3,(a5,a6)))))) λh=>F (λk=>f (y k)) (λk=>f (M k)) h)) λE=>F (λG=>f (y G)) (λG=>f (M G)) E)) λa=>F (λ(b,c,d,e)=>f (e,b,c,d)) (λ(b,c,_,d)=>f (d,50,b,c)) a
def q3s:xk->Uv (qi×vp):=qa9 q5b q32
theorem qjy:q3s=ztD.F:=by delta q3s;rw[qgt,qgu];kernel_rfl
def q4b(A:zeE):Int×Uc×(Int×zA)×Z7->Uv (Step (Int×Uc×(Int×zA)×Z7) zeU):=λ(a,b,c,d,e)=>ite (q (d < Sl.len b)) (Z (za b d) λi=>Z (za e c.1) λj=>Z (z8 j.V_ c.2.1 c.2.2) λl=>Z (za l d) λm=>Z (za e c.1) λn=>Z (za n.V_ (c.2.1+d)) λo=>Z (A (a,kr i,o,e)) λp=>ite (q (p.1≠0)) (f (Step.done (y p))) (f (Step.next (a,b,c,Uw (d+1),p.2)))) (f (Step.done (M e)))
def q8h(A:zeE)(x:zqa):Uv Z7:=Z (za x.2.2.2 x.2.2.1.1) λa=>Z (z8 a.V_ x.2.2.1.2.1 x.2.2.1.2.2) λb=>ite (q (Sl.len x.2.1≠x.2.2.1.2.2 - x.2.2.1.2.1)) (f (51,x.2.2.2)) (Z (lpO (q4b A) (x.1,x.2.1,x.2.2.1,0,x.2.2.2)) λc=>F (λd=>f d) (λd=>f (0,d)) c)
def q33:zqa->Uv Z7:=q8h q1p
theorem qif:q33=ztE.F:=by delta q33;rw[qe2];kernel_rfl
def q5c(A:zmk)(B:zp7)(C:zmk)(D:zvy)(E:zeE):Int×Int×Ug×Ur×q6->Uv (Step (Int×Int×Ug×Ur×q6) zcK):=λ(a,b,c,d,e)=>ite (q (b < Sl.len d)) (Z (za d b) λi=>Z (za d b) λj=>ite (q (j.N_=e.T_)) (Z (za d b) λl=>Z (za d b) λm=>Z (za d b) λn=>Z (za d b) λo=>Z (za d b) λp=>Z (z8 p.V_ 0 o.P_) λr=>Z (D (a,e.K_,(b,0,o.P_),d)) λ(s,t)=>f (Step.done (y (s,c,t)))) (f (Step.next (a,Uw (b+1),c,d,kr e)))) (f (Step.done (M (c,d))))
def q34(A:zmk)(B:zp7)(C:zmk)(D:zvy)(E:zeE)(x:xk):Uv vp:=Z (ite (q (x.2.1.k_=10)) (Z (za x.2.1.K_ 0) λa=>Z (A (x.1,kr a,x.2.2)) λ(b,c,d,e)=>ite (q (c≠0)) (f (y (c,d,e))) (Z (B (x.1,x.2.1.T_,e)) λ(i,j)=>ite (q (i < 0)) (Z (za j x.1) λl=>Z (za j x.1) λm=>Z (zo 32 m.V_ [qi.mk x.2.1.T_ b.M_ b.t_]) λn=>Z (za j x.1) λo=>bif q (x.1=x.1) then f (y (0,d,Sl.set j x.1 (qg.mk o.N_ o.P_ n))) else Y) (Z (za j x.1) λp=>Z (za j x.1) λr=>Z (za r.V_ i) λs=>Z (za j x.1) λt=>Z (za t.V_ i) λu=>ite (!(q (u.N_=x.2.1.T_) && (q (u.M_=b.M_) && (q (u.t_=b.t_) && g)))) (f (y (40,d,j))) (f (y (0,d,j)))))) (Z (ite (q (x.2.1.k_=20)) (Z (za x.2.1.K_ 0) λv=>Z (C (x.1,kr v,x.2.2)) λ(_,w,z,G)=>f (y (w,z,G))) (Z (ite (q (x.2.1.k_=19)) (Z (lpO (q5c A B C D E) (x.1,0,x.2.2.1,x.2.2.2,kr x.2.1)) λH=>F (λI=>f (y I)) (λI=>f (y (31,I))) H) (Z (ite (q (x.2.1.k_=15)) (f (x.1,x.2.1.k_,q (x.2.1.k_=15),x.2.2.1,x.2.2.2,kr x.2.1,qi.mk (lit []) 1 0)) (f (x.1,x.2.1.k_,q (x.2.1.k_=16),x.2.2.1,x.2.2.2,kr x.2.1,qi.mk (lit []) 1 0))) λ(I,J,K,L,P,Q,R)=>Z (ite K (Z (za Q.K_ 0) λS=>Z (E (I,kr S,R,P)) λ(T,U)=>ite (q (T≠0)) (f (y (T,L,U))) (Z (za Q.K_ 1) λW=>Z (E (I,kr W,R,U)) λ(X,h)=>f (y (X,L,h)))) (Z (ite (q (J=17)) (ite (q (0 < Q.K_.len)) (f (y (35,L,P))) (f (y (0,L,P)))) (ite (q (J=18)) (f (y (0,L,P))) (f (M (L,P))))) λa2=>F (λa3=>f (y a3)) (λa3=>f (M a3)) a2)) λS=>F (λT=>f (y T)) (λT=>f (M T)) S)) λH=>F (λI=>f (y I)) (λI=>f (M I)) H)) λv=>F (λw=>f (y w)) (λw=>f (M w)) v)) λa=>F (λb=>f b) (λb=>f (50,b)) a
def q1k:xk->Uv vp:=q34 q3s q2r q32 q33 q1p
theorem qkg:q1k=zlo.F:=by delta q1k;rw[qjy,qfd,qgu,qif,qe2];kernel_rfl
def q5m(A:zuS)(B:zd8)(C:zib):Int×Uc×Int×Int×Ug×Ur×q6->Uv (Step (Int×Uc×Int×Int×Ug×Ur×q6) zeB):=λ(a,b,c,d,e,i,j)=>ite (q (d < j.K_.len)) (Z (za j.K_ d) λl=>Z (C (a,l.K_,e,i)) λ(m,n)=>f (Step.next (a,b,c,Uw (d+1),m,n,kr j))) (f (Step.done (a,b,c,e,i)))
def q3w(A:zuS)(B:zd8)(C:zib):zeB->Uv (Step zeB zvv):=λ(a,b,c,d,e)=>Z (ite (q (c < Sl.len b)) (f (a,b,c,q (d.2.2.2=0),(d,e))) (f (a,b,c,N,(d,e)))) λ(i,j,l,m,n,o)=>ite m (Z (za j l) λp=>Z (A (i,kr p,(n,o))) λr=>ite (q (r.1≠0)) (Z (B (p.a_,r)) λs=>f (Step.done (y s))) (Z (ite (q (p.k_=15)) (f (i,j,l,g,r.2.1,r.2.2,kr p)) (f (i,j,l,q (p.k_=16),r.2.1,r.2.2,kr p))) λ(t,u,v,w,z,D,E)=>Z (ite w (Z (lpO (q5m A B C) (t,u,v,2,z,D,kr E)) λG=>f G) (f (t,u,v,z,D))) λ(G,H,I,J,K)=>f (Step.next (G,H,Uw (I+1),(J,K))))) (f (Step.done (M (n,o))))
def q75(A:zuS)(B:zd8)(C:zib)(x:zvI):Uv ZB:=Z (lpO (q3w A B C) (x.1,x.2.1,0,x.2.2)) λa=>F (λb=>f b) (λb=>f b) a
def q5p(h:zcI):zcI:=q75 q1k q1c h
theorem qig(h:zcI):@Eq zcI (zjb h) (q5p h):=by delta q5p;rw[qkg,qe1];kernel_rfl
def q35:Nat->zvI->Uv ZB
 |0=>λ_=>Y
 |k+1=>q5p (q35 k)
theorem qfe:∀k,@Eq zcI (zgE k) (q35 k)
 |0=>rfl
 |k+1=>(qig (zgE k)).trans (congrArg q5p (qfe k))
def q4z:zcI:=q35 100000
theorem qj3:@Eq zcI zyB q4z:=qfe 100000
def qec(x:q6):Uv qp:=f (qp.mk x.T_ x.n_)
def q24:WF:=qec
theorem qcj:q24=zcm.F:=jO
def q73(A:WF):Uc×Int×Sl qp->Uv (Step (Uc×Int×Sl qp) (Sl qp)):=λ(a,b,c)=>ite (q (b < Sl.len a)) (Z (za a b) λd=>Z (A (kr d)) λe=>Z (zo 24 c [e]) λi=>f (Step.next (a,Uw (b+1),i))) (f (Step.done c))
def qcu(A:WF)(x:Uc):Uv (Sl qp):=Z (lpO (q73 A) (x,0,O [] N)) λa=>f a
def q61:Uc->Uv (Sl qp):=qcu q24
theorem qg9:q61=zo3.F:=by delta q61;rw[qcj];kernel_rfl
def qb0(A:WF)(B:Uc->Uv (Sl qp))(x:q6):Uv zpN:=Z (za x.K_ 0) λa=>Z (ite (q (a.k_=26)) (f (a.k_,q (a.k_=26),(0,0,lit [],lit [],lit [],0,lit [],0,0,N),kr a,0,x.a_,x.T_,lit [],a.T_,a.n_,lit [],0,0,N)) (f (a.k_,q (a.k_=27),(0,0,lit [],lit [],lit [],0,lit [],0,0,N),kr a,0,x.a_,x.T_,lit [],a.T_,a.n_,lit [],0,0,N))) λ((b,c,d,e,i,j,l,m,n,o,p,r,s,t):Int×Bool×(Int×Int×Ut×Ut×Ut×Int×Ut×Int×Int×Bool)×q6×Int×Int×Ut×Ut×Ut×Int×Ut×Int×Int×Bool)=>Z (ite c (f (d,(i,j,l,m,e.T_,0,(p,r,s,t)),O [] N)) (Z (ite (q (b=21)) (Z (za e.K_ 0) λu=>Z (A (kr u)) λv=>Z (za e.K_ 1) λw=>Z (A (kr w)) λz=>f (d,(1,j,l,m,v.N_,v.n_,z.N_,z.n_,(s,t)),O [] N)) (Z (ite (q (b=22)) (Z (za e.K_ 0) λC=>Z (A (kr C)) λD=>Z (za e.K_ 1) λE=>Z (A (kr E)) λG=>f (d,(2,j,l,m,D.N_,D.n_,G.N_,G.n_,(s,t)),O [] N)) (Z (ite (q (b=23)) (f (d,(3,j,l,m,lit [],e.n_,(p,r,s,t)),O [] N)) (Z (ite (q (b=24)) (f (d,(4,j,l,m,e.T_,0,(p,r,s,t)),O [] N)) (Z (ite (q (b=25)) (Z (za e.K_ 0) λH=>Z (A (kr H)) λI=>f (d,(5,j,l,e.T_,I.N_,I.n_,(p,r,s,t)),O [] N)) (Z (ite (q (b=28)) (Z (B e.K_) λJ=>f (d,(12,j,l,e.T_,lit [],0,(p,r,s,t)),J)) (f (d,(i,j,l,m,n,o,p,r,s,t),O [] N))) λ(J:tA1)=>f J)) λ(H:tA1)=>f H)) λ(H:tA1)=>f H)) λ(H:tA1)=>f H)) λ(C:tA1)=>f C)) λ(u:tA1)=>f u)) λ((_,u,v):tA1)=>f (u,v)
def q6u:zcH:=qb0 q24 q61
theorem qkh:q6u=ztG.F:=by delta q6u;rw[qcj,qg9];kernel_rfl
def q8x(A:zcH)(B:WF)(C:Uc->Uv (Sl qp))(x:q6):Uv zpN:=ite (q (x.k_=10)) (Z (A (kr x)) λa=>f a) (Z (ite (q (x.k_=11)) (Z (za x.K_ 0) λb=>Z (B (kr b)) λc=>Z (za x.K_ 1) λd=>Z (B (kr d)) λe=>f ((0,0,lit [],lit [],lit [],0,lit [],0,0,N),(6,x.a_,lit [],x.T_,c.N_,c.n_,e.N_,e.n_,0,N),O [] N)) (Z (ite (q (x.k_=12)) (f ((0,0,lit [],lit [],lit [],0,lit [],0,0,N),(7,x.a_,lit [],x.T_,lit [],0,lit [],0,0,N),O [] N)) (Z (ite (q (x.k_=13)) (f ((0,0,lit [],lit [],lit [],0,lit [],0,0,N),(8,x.a_,lit [],x.T_,lit [],x.n_,lit [],0,0,N),O [] N)) (Z (ite (q (x.k_=14)) (f ((0,0,lit [],lit [],lit [],0,lit [],0,0,N),(9,x.a_,lit [],x.T_,lit [],x.n_,lit [],0,0,N),O [] N)) (Z (ite (q (x.k_=20)) (Z (za x.K_ 0) λi=>Z (za x.K_ 0) λj=>Z (C j.K_) λl=>f ((0,0,lit [],lit [],lit [],0,lit [],0,0,N),(12,x.a_,lit [],i.T_,lit [],0,lit [],0,0,N),l)) (Z (ite (q (x.k_=19)) (Z (C x.K_) λm=>f ((0,0,lit [],lit [],lit [],0,lit [],0,0,N),(13,x.a_,lit [],x.T_,lit [],0,lit [],0,0,N),m)) (Z (ite (q (x.k_=17)) (Z (ite (q (0 < x.K_.len)) (Z (za x.K_ 0) λn=>Z (B (kr n)) λo=>f ((0,0,lit [],lit [],lit [],0,lit [],0,0,N),14,x.a_,lit [],lit [],o.N_,o.n_,lit [],0,0,g)) (f ((0,0,lit [],lit [],lit [],0,lit [],0,0,N),14,x.a_,lit [],lit [],lit [],0,lit [],0,0,N))) λ(n:tA5)=>f n) (Z (ite (q (x.k_=18)) (f ((0,0,lit [],lit [],lit [],0,lit [],0,0,N),15,x.a_,lit [],lit [],lit [],0,lit [],0,0,N)) (f ((0,0,lit [],lit [],lit [],0,lit [],0,0,N),0,x.a_,lit [],x.T_,lit [],0,lit [],0,0,N))) λ(o:tA5)=>f o)) λ(n:tA5)=>f (n.1,n.2,O [] N))) λ(m:tA1)=>f m)) λ(i:tA1)=>f i)) λ(i:tA1)=>f i)) λ(i:tA1)=>f i)) λ(i:tA1)=>f i)) λ(b:tA1)=>f b.2)
def q27:zcH:=q8x q6u q24 q61
theorem qj4:q27=zlp.F:=by delta q27;rw[qkh,qcj,qg9];kernel_rfl
def q5h(A:zcH)(B:WF)(C:zeT):Int×Int×Int×Int×Int×q6×Sl qq×q6×Sl qq->Uv (Step (Int×Int×Int×Int×Int×q6×Sl qq×q6×Sl qq) (Int×Int×Int×Int×q6×Sl qq×q6)):=λ(a,b,c,d,e,i,j,l,m)=>ite (q (e < Sl.len m)) (Z (za m e) λn=>Z (za m e) λo=>Z (zo 136 j [o]) λp=>f (Step.next (a,b,c,d,Uw (e+1),kr i,p,kr l,m))) (f (Step.done (a,b,c,d,kr i,j,kr l)))
def q5i(A:zcH)(B:WF)(C:zeT):Int×Int×Int×q6×Sl qq×Sl qq->Uv (Step (Int×Int×Int×q6×Sl qq×Sl qq) (Int×Int×q6×Sl qq)):=λ(a,b,c,d,e,i)=>ite (q (c < Sl.len i)) (Z (za i c) λj=>Z (za i c) λl=>Z (zo 136 e [l]) λm=>f (Step.next (a,b,Uw (c+1),kr d,m,i))) (f (Step.done (a,b,kr d,e)))
def q3v(A:zcH)(B:WF)(C:zeT):Int×Int×q6×Sl qq->Uv (Step (Int×Int×q6×Sl qq) (Sl qq)):=λ(a,b,c,d)=>ite (q (b < c.K_.len)) (Z (Z (za c.K_ b) λe=>Z (ite (q (e.k_≠15)) (f (a,b,Uw (a+Sl.len d),q (e.k_≠16),kr c,d,kr e)) (f (a,b,Uw (a+Sl.len d),N,kr c,d,kr e))) λ(i,j,l,m,n,o,p)=>ite m (Z (A (kr p)) λ(r,s)=>Z (zo 136 o [qq.mk r.1 r.2.1 r.2.2.1 r.2.2.2.1 (qp.mk r.2.2.2.2.1 r.2.2.2.2.2.1) (qp.mk r.2.2.2.2.2.2.1 r.2.2.2.2.2.2.2.1) s r.2.2.2.2.2.2.2.2.1 r.2.2.2.2.2.2.2.2.2]) λt=>f (i,j,kr n,t)) (Z (za p.K_ 0) λu=>Z (B (kr u)) λv=>Z (za p.K_ 1) λw=>Z (B (kr w)) λz=>Z (za p.K_ 2) λD=>Z (C (kr D,Uw (l+1))) λE=>Z (zo 136 o [qq.mk 10 p.a_ p.T_ (lit []) v z (O [] N) (Uw (Uw (Uw (l+1)+E.len)+1)) N]) λG=>Z (lpO (q5h A B C) (i,j,l,Uw (Uw (l+1)+E.len),0,kr n,G,kr p,E)) λ(H,I,J,K,L,P,Q)=>ite (q (Q.k_=16)) (Z (zo 136 P [qq.mk 11 Q.a_ (lit []) (lit []) (qp.mk (lit []) 0) (qp.mk (lit []) 0) (O [] N) J N]) λR=>f (H,I,kr L,R)) (Z (za Q.K_ 3) λS=>Z (C (kr S,Uw (K+1))) λT=>Z (zo 136 P [qq.mk 11 Q.a_ (lit []) (lit []) (qp.mk (lit []) 0) (qp.mk (lit []) 0) (O [] N) (Uw (Uw (K+1)+T.len)) N]) λU=>Z (lpO (q5i A B C) (H,I,0,kr L,U,T)) λ(W,X,h,a2)=>f (W,X,kr h,a2)))) λ(e,i,j,l)=>f (Step.next (e,Uw (i+1),kr j,l))) (f (Step.done d))
def q76(A:zcH)(B:WF)(C:zeT)(x:q6×Int):Uv (Sl qq):=Z (lpO (q3v A B C) (x.2,0,kr x.1,O [] N)) λa=>f a
def q5q(h:Vi):Vi:=q76 q27 q24 h
theorem qih(h:Vi):@Eq Vi (zjc h) (q5q h):=by delta q5q;rw[qj4,qcj];kernel_rfl
def q2p:Nat->(q6×Int)->Uv (Sl qq)
 |0=>λ_=>Y
 |k+1=>q5q (q2p k)
theorem qff:∀k,@Eq Vi (zgF k) (q2p k)
 |0=>rfl
 |k+1=>(qih (zgF k)).trans (congrArg q5q (qff k))
def q4v:Vi:=q2p 100000
theorem qj5:@Eq Vi zyD q4v:=qff 100000
def q5j(A:zeT):Int×Int×q6×Ut×Ut×zcW->Uv (Step (Int×Int×q6×Ut×Ut×zcW) (Int×q6×Ut×Ut×zcW)):=λ(a,b,c,d,e,i)=>ite (q (b < Uw (a - 1))) (Z (za c.K_ b) λj=>Z (zo 16 i [j.T_]) λl=>f (Step.next (a,Uw (b+1),kr c,d,e,l))) (f (Step.done (a,kr c,(d,e,i))))
def q8y(A:zeT)(x:q6):Uv (Ut×zcW×Sl qq):=Z (lpO (q5j A) (Uw (x.K_.len - 1),0,kr x,lit [],x.T_,O [] N)) λ(a,b,_,c,d)=>Z (za b.K_ a) λe=>Z (A (kr e,0)) λi=>Z (za b.K_ a) λj=>Z (zo 136 i [qq.mk 14 j.a_ (lit []) (lit []) (qp.mk (lit []) 0) (qp.mk (lit []) 0) (O [] N) 0 N]) λl=>f (c,d,l)
def q2m:zcN:=q8y q4v
theorem qga:q2m=zo5.F:=by delta q2m;rw[<-qj5];kernel_rfl
def q3x(A:zd8)(B:zuQ)(C:zib)(D:zcN):xk->Uv (Step xk zg7):=λ(a,b,c,d)=>Z (ite (q (a < b.K_.len)) (f (a,q (c.2.2.2=0),kr b,(c,d))) (f (a,N,kr b,(c,d)))) λ(e,i,j,l,m)=>ite i (Z (za j.K_ e) λn=>ite (q (n.k_≠6)) (Z (za j.K_ e) λo=>Z (A (o.a_,50,(l,m))) λp=>f (Step.done (kr j,p))) (Z (za j.K_ e) λr=>Z (B (kr r,(l,m))) λ(s,t,u,v)=>Z (zo 48 u [qg.mk s.1 s.2 v]) λw=>f (Step.next (Uw (e+1),kr j,t,w)))) (f (Step.done (kr j,(l,m))))
def q3y(A:zd8)(B:zuQ)(C:zib)(D:zcN):xk->Uv (Step xk ZB):=λ(a,b,c,d)=>Z (ite (q (a < b.K_.len)) (f (a,q (c.2.2.2=0),kr b,(c,d))) (f (a,N,kr b,(c,d)))) λ(e,i,j,l,m)=>ite i (Z (za j.K_ e) λn=>Z (za m e) λo=>Z (za n.K_ (Uw (n.K_.len - 1))) λp=>Z (C (e,p.K_,(l,m))) λ(r,s)=>Z (D (kr n)) λ(_,_,t)=>Z (Z (za s e) λu=>Z (za s e) λv=>Z (za s e) λw=>ite (q (64 < w.V_.len)) (f (e,g,kr j,r,kr n,s)) (f (e,q (512 < Sl.len t),kr j,r,kr n,s))) λ(u,v,w,z,E,G)=>Z (ite v (Z (A (E.a_,22,z,G)) λH=>f (u,kr w,H)) (f (u,kr w,z,G))) λ(H,I,J,K)=>f (Step.next (Uw (H+1),kr I,(J,K)))) (f (Step.done (l,m)))
def q90(A:zd8)(B:zuQ)(C:zib)(D:zcN)(x:zqp):Uv ZB:=Z (lpO (q3x A B C D) (0,kr x.1,(x.2.1,x.2.2,0,0),O [] N)) λ(a,b,c)=>Z (lpO (q3y A B C D) (0,kr a,(b,c))) λd=>Z (ite (q (d.1.2.2.2≠0)) (f (d.1,O [] N)) (f d)) λe=>f e
def q48:zqp->Uv ZB:=q90 q1c q4j q4z q2m
theorem qj6:q48=ztI.F:=by delta q48;rw[qe1,qjw,<-qj3,qga];kernel_rfl
def q57(A:zjM)(B:zeK)(C:zeL)(D:zvK)(E:zvx)(G:zcU)(H:zcN):Int×Ua×Int×Int×q13×q6×Uq×Ug×Ur×Sl q1m×Sl q1n->Uv (Step (Int×Ua×Int×Int×q13×q6×Uq×Ug×Ur×Sl q1m×Sl q1n) (Int×q13×Uq×Ug×Ur×Sl q1m×Sl q1n)):=λ(a,b,c,d,e,i,j,l,m,n,o)=>ite (q (d < c)) (Z (za b d) λp=>Z (ite (q (p.k_=6)) (Z (G (ke p)) λr=>Z (zo 64 n [r]) λs=>Z (za i.K_ d) λt=>Z (H (kr t)) λ(u,v,w)=>Z (zo 64 o [q1n.mk u v w]) λz=>f (a,b,c,d,e,kr i,j,l,m,s,z)) (f (a,b,c,d,e,kr i,(j,l,m,n,o)))) λ(r,s,t,u,v,w,z,I,J,K,L)=>f (Step.next (r,s,t,Uw (u+1),v,kr w,(z,I,J,K,L)))) (f (Step.done (a,e,(j,l,m,n,o))))
def q8i(A:zjM)(B:zeK)(C:zeL)(D:zvK)(E:zvx)(G:zcU)(H:zcN)(x:X8):Uv (q13×q1w×Bool):=Z (A x.1) λ(a,b)=>Z (B x.2) λ(c,_,d)=>Z (ite (!b) (f (x.2,g,a,ke c)) (f (x.2,q (d≠0),a,ke c))) λ(e,i,j,l)=>ite i (f (j,q1w.mk (O [] N) (O [] N) (O [] N) (O [] N),N)) (Z (C e) λ(m,_,_)=>Z (D (ke l,j.s_,j.I_)) λ(_,n,o)=>Z (E (kr m,j.q_,j.j_)) λ(p,r)=>Z (lpO (q57 A B C D E G H) (n,l.K_,l.K_.len,0,j,kr m,o,p,r,O [] N,O [] N)) λ(s,t,u,v,w,z,I)=>Z (ite (q (s=0)) (ite (q (v.2.2.2=0)) (ite (q (Sl.len u=Sl.len z)) (f (q (Sl.len w=Sl.len u),t,u,z,w,I)) (f (N,t,u,z,w,I))) (f (N,t,u,z,w,I))) (f (N,t,u,z,w,I))) λ(J,K,L,P,Q,R)=>f (K,q1w.mk L P Q R,J))
def q3z:X8->Uv (q13×q1w×Bool):=q8i q3l q6d q2w q8a q48 q5e q2m
theorem qii:q3z=ztJ.F:=by delta q3z;rw[qhv,<-qip,qg7,<-qlr,qj6,qku,qga];kernel_rfl
def q5n(A:zvJ):Int×Int×q13×q1w×Sl ql×Sl q15->Uv (Step (Int×Int×q13×q1w×Sl ql×Sl q15) (Sl ql×Sl q15)):=λ(a,b,c,d,e,i)=>ite (q (b < a)) (Z (za d.w_ b) λj=>Z (za d.J_ b) λl=>Z (zo 184 e [ql.mk j l c.s_ d.J_ c.I_]) λm=>Z (za d.g_ b) λn=>Z (za d.r_ b) λo=>Z (zo 8 i [q15.mk n o c.q_ d.r_ c.j_]) λp=>f (Step.next (a,Uw (b+1),c,d,m,p))) (f (Step.done (e,i)))
def q91(A:zvJ)(x:X8):Uv (Bool×Sl ql×Sl q15):=Z (A x) λ(a,b,c)=>ite (!c) (f (N,O [] N,O [] N)) (Z (lpO (q5n A) (b.J_.len,0,a,b,O [] N,O [] N)) λd=>f (g,d))
def q1s:X8->Uv (Bool×Sl ql×Sl q15):=q91 q3z
theorem qgb:q1s=zo6.F:=by delta q1s;rw[qii];kernel_rfl
def qce(x:yp):Uv xl:=Z (zo 8 x.2.2.1 [x.1]) λa=>f (x.2.1,x.2.2.2,a)
def qaq:yp->Uv xl:=qce
theorem ql9:qaq=zo7.F:=jO
def q5s(x:yd):Uv yp:=f (Sl.len x.2.1,x)
def q2g:yd->Uv yp:=q5s
theorem qfp:q2g=zhQ.F:=jO
def qcd(x:Xr):Uv WC:=Z (za x.2.2.2.1 x.1) λa=>Z (za x.2.2.2.1 x.1) λb=>Z (za x.2.2.2.1 x.2.1) λc=>Z (za x.2.2.2.1 x.2.1) λd=>f (q (Uw (x.2.2.1 * b) < Uw (x.2.2.1 * d)),x.2.2)
def q2i:Xr->Uv WC:=qcd
theorem qhg:q2i=zlq.F:=jO
def qcc(x:Xr):Uv yd:=Z (za x.2.2.2.1 x.2.1) λa=>Z (za x.2.2.2.1 x.2.1) λb=>Z (za x.2.2.2.1 x.1) λc=>Z (za x.2.2.2.1 x.1) λd=>Z (za x.2.2.2.1 x.1) λe=>Z (za x.2.2.2.1 x.1) λi=>Z (za (Sl.set x.2.2.2.1 x.1 b) x.2.1) λj=>Z (za (Sl.set x.2.2.2.1 x.1 b) x.2.1) λl=>f (x.2.2.1,(Sl.set x.2.2.2.1 x.1 b).set x.2.1 d,x.2.2.2.2)
def q23:Xr->Uv yd:=qcc
theorem qf1:q23=zhR.F:=jO
def q6l(A:zmi)(B:zmj):yp->Uv (Step yp yd):=λ(a,b,c,d,e)=>Z (ite (q (Uw ((Uw (a - 1)).tdiv 2)=a)) (f (a,Uw ((Uw (a - 1)).tdiv 2),g,(b,c,d,e))) (Z (A (a,Uw ((Uw (a - 1)).tdiv 2),(b,c,d,e))) λ(i,j,l,m,n)=>f (a,Uw ((Uw (a - 1)).tdiv 2), !i,(j,l,m,n)))) λ(i,j,l,m,n,o,p)=>ite l (f (Step.done (m,n,o,p))) (Z (B (j,i,(m,n,o,p))) λr=>f (Step.next (j,r)))
def qb4(A:zmi)(B:zmj)(x:yp):Uv yd:=Z (lpO (q6l A B) x) λa=>f a
def q8o:yp->Uv yd:=qb4 q2i q23
theorem qki:q8o=ztK.F:=by delta q8o;rw[qhg,qf1];kernel_rfl
def q93(A:zd7)(B:zmm)(C:yp->Uv yd)(x:yp):Uv xl:=Z (A x) λ(a,b,c)=>Z (B (a,c,b)) λ(d,e,i,j,l)=>Z (C (Uw (d - 1),(e,i,j,l))) λ(m,n,o,p)=>f (m,(o,p),n)
def q7q:yp->Uv xl:=q93 qaq q2g q8o
theorem qj7:q7q=ztL.F:=by delta q7q;rw[ql9,qfp,qki];kernel_rfl
def qd3(A:zd7)(x:yp):Uv xl:=Z (ite (!zX x.1 N x.2.2.2.2.xs) (Z (A (x.1,x.2.1,x.2.2.1,x.2.2.2.1,O (Z8 x.1 g x.2.2.2.2.xs) g)) λa=>f a) (f (x.2.1,x.2.2.2,x.2.2.1))) λa=>f a
def q2h:yp->Uv xl:=qd3 q7q
theorem qhu:q2h=zo8.F:=by delta q2h;rw[qj7];kernel_rfl
def q4o(A:zmi)(B:zmj):zjm->Uv (Step zjm Xr):=λ(a,b,c,d,e,i,j)=>Z (Z (ite (q (b<=Uw (Uw (2 * c)+1))) (f (a,b,c,Uw (Uw (2 * c)+1),g,(d,e,i,j))) (f (a,b,c,Uw (Uw (2 * c)+1),q (Uw (Uw (2 * c)+1) < 0),(d,e,i,j)))) λ(l,m,n,o,p,r,s,t,u)=>ite p (f (y (l,n,(r,s,t,u)))) (Z (ite (q (Uw (o+1) < m)) (Z (A (Uw (o+1),o,(r,s,t,u))) λv=>f (l,m,n,o,Uw (o+1),v)) (f (l,m,n,o,Uw (o+1),N,(r,s,t,u)))) λ(v,w,z,C,D,E,G,H,I,J)=>Z (ite E (f (v,w,z,D,(G,H,I,J))) (f (v,w,z,C,(G,H,I,J)))) λ(K,L,P,Q,R,S,T,U)=>Z (A (Q,P,(R,S,T,U))) λ(W,X,h,a2,a3)=>ite (!W) (f (y (K,P,(X,h,a2,a3)))) (Z (B (P,Q,(X,h,a2,a3))) λa4=>f (M (K,L,Q,a4))))) λl=>F (λm=>f (Step.done m)) (λm=>f (Step.next m)) l
def q92(A:zmi)(B:zmj)(x:Xr):Uv WC:=Z (lpO (q4o A B) (x.1,x.2.1,x.1,x.2.2)) λ(a,b,c,d,e,i)=>f (q (a < b),(c,d,e,i))
def q7p:Xr->Uv WC:=q92 q2i q23
theorem qj8:q7p=ztM.F:=by delta q7p;rw[qhg,qf1];kernel_rfl
def qd2(x:yd):Uv Vf:=Z (za x.2.1 (Uw (Sl.len x.2.1 - 1))) λa=>Z (za x.2.1 (Uw (Sl.len x.2.1 - 1))) λb=>Z (z8 x.2.1 0 (Uw (Sl.len x.2.1 - 1))) λc=>f (b,x.1,x.2.2,c)
def qbd:yd->Uv Vf:=qd2
theorem qlg:qbd=zo9.F:=jO
def qad(A:zmm)(B:zmj)(C:zmi)(D:zpJ)(x:yd):Uv Vf:=Z (A x) λ(a,b,c,d,e)=>Z (B (0,Uw (a - 1),(b,c,d,e))) λi=>Z (C (0,Uw (a - 1),i)) λ(_,j,l,m,n)=>Z (D (j,l,m,n)) λo=>f o
def q36:yd->Uv Vf:=qad q2g q23 q7p qbd
theorem qjz:q36=ztN.F:=by delta q36;rw[qfp,qf1,qj8,qlg];kernel_rfl
def q7u(x:GX):Uv GX:=ite (!x.nn) (f (O [] N)) (Z (zo 1 (O [] g) x.xs) λa=>f a)
def q1t:zhc:=q7u
theorem qen:q1t=zlr.F:=jO
def qbk(x:ql×Int):Uv (qm×Bool):=Z (ite (q (x.2 < 0)) (f (x.2,g,x.1,0,0,lit [],lit [],lit [],0,lit [],0,0,N)) (f (x.2,q (x.1.c_.L_.len<=x.2),x.1,0,0,lit [],lit [],lit [],0,lit [],0,0,N))) λ((a,b,c,_,_,_,_,_,_,_,_,_,_):Int×Bool×ql×Int×Int×Ut×Ut×Ut×Int×Ut×Int×Int×Bool)=>ite b (f (qm.mk 0 0 (lit []) (lit []) (qz.mk (lit []) 0) (qz.mk (lit []) 0) (O [] N) 0 N,N)) (Z (za c.c_.L_ a) λd=>f (d,g))
def q1v:zcR:=qbk
theorem q9l:q1v=zdL.F:=jO
def qbq(A:zcR)(B:vt)(x:ql×Int):Uv (qh×qh×Int×Bool):=Z (A x) λ(a,b)=>Z (ite (!b) (f (g,x.1,qh.mk (lit []) 0 0,qh.mk (lit []) 0 0,a)) (ite (q (a.O_≠0)) (f (g,x.1,qh.mk (lit []) 0 0,qh.mk (lit []) 0 0,a)) (ite (q (a.A_.N_=lit [])) (f (g,x.1,qh.mk (lit []) 0 0,qh.mk (lit []) 0 0,a)) (f (q (a.A_.n_≠0),x.1,qh.mk (lit []) 0 0,qh.mk (lit []) 0 0,a))))) λ(c,d,e,i,j)=>ite c (f (e,i, -1,N)) (Z (B (d.F_,j.A_.N_)) λl=>Z (za d.F_.V_ l) λm=>Z (B (d.F_,j.X_)) λn=>Z (za d.F_.V_ n) λo=>f (o,m,l,g))
def q4l:zvT:=qbq q1v q1r
theorem qkv:q4l=ztO.F:=by delta q4l;rw[q9l,q86];kernel_rfl
def qbn(x:ql×qh):Ud:=Z (ite (q (x.2.M_=2)) (Z (za x.1.W_ x.2.t_) λa=>f (q (a.S_≠3))) (f N)) λa=>f a
def q4k:ql×qh->Ud:=qbn
theorem qkw:q4k=zpa.F:=jO
def qcv(x:qf×qm):Uv Xv:=f (q (x.1.N_=x.2.Y_),x.2)
def q65:qf×qm->Uv Xv:=qcv
theorem qj9:q65=zpb.F:=jO
def q6y(A:zv8):Sl qf×Int×Int×qm->Uv (Step (Sl qf×Int×Int×qm) zj2):=λ(a,b,c,d)=>ite (q (c < b)) (Z (za a c) λe=>Z (A (e,d)) λ(i,j)=>ite i (f (Step.done (y (c,j)))) (f (Step.next (a,b,Uw (c+1),j)))) (f (Step.done (M d)))
def qbo(A:zv8)(x:Sl qf×qm):Uv (Int×qm):=Z (lpO (q6y A) (x.1,Sl.len x.1,0,x.2)) λa=>F (λb=>f b) (λb=>f (-1,b)) a
def q7n:Sl qf×qm->Uv (Int×qm):=qbo q65
theorem qkx:q7n=ztP.F:=by delta q7n;rw[qj9];kernel_rfl
def qcw(x:qe×qm):Uv Xv:=f (q (x.1.N_=x.2.Y_),x.2)
def q66:qe×qm->Uv Xv:=qcw
theorem qja:q66=zpc.F:=jO
def q6z(A:zv9):Uq×Int×Int×qm->Uv (Step (Uq×Int×Int×qm) zj2):=λ(a,b,c,d)=>ite (q (c < b)) (Z (za a c) λe=>Z (A (e,d)) λ(i,j)=>ite i (f (Step.done (y (c,j)))) (f (Step.next (a,b,Uw (c+1),j)))) (f (Step.done (M d)))
def qbp(A:zv9)(x:Uq×qm):Uv (Int×qm):=Z (lpO (q6z A) (x.1,Sl.len x.1,0,x.2)) λa=>F (λb=>f b) (λb=>f (-1,b)) a
def q7o:Uq×qm->Uv (Int×qm):=qbp q66
theorem qky:q7o=ztQ.F:=by delta q7o;rw[qja];kernel_rfl
def qb3(A:Sl qf×qm->Uv (Int×qm))(B:Uq×qm->Uv (Int×qm))(x:ql×qm):Uv (Sl qh):=Z (ite (q (x.2.O_=12)) (Z (A (x.1.G_,x.2)) λ(a,_)=>ite (q (0<=a)) (Z (za x.1.G_ a) λb=>f (y b.P_)) (f (M ()))) (Z (ite (q (x.2.O_=13)) (Z (B (x.1.f_,x.2)) λ(c,_)=>ite (q (0<=c)) (Z (za x.1.f_ c) λd=>Z (za x.1.f_ c) λe=>Z (z8 d.V_ 0 e.P_) λi=>f (y i)) (f (M ()))) (f (M ()))) λc=>F (λd=>f (y d)) (λd=>f (M ())) c)) λa=>F (λb=>f b) (λb=>f (O [] N)) a
def q3h:ql×qm->Uv (Sl qh):=qb3 q7n q7o
theorem qkj:q3h=ztR.F:=by delta q3h;rw[qkx,qky];kernel_rfl
def q5v(A:zvT)(B:ql×qh->Ud)(C:zcR)(D:ql×qm->Uv (Sl qh))(E:vt):zjD->Uv (Step zjD Uj):=λa=>ite (q (a.2.2.1 < a.2.1)) (Z (za a.1 a.2.2.1) λb=>Z (B (a.2.2.2.1,b)) λc=>Z (ite c (Z (za a.2.2.2.2.1.Q_ a.2.2.1) λd=>Z (E (a.2.2.2.1.F_,d.N_)) λe=>Z (zo 8 a.2.2.2.2.2 [e]) λi=>f (a.1,a.2.1,a.2.2.1,a.2.2.2.1,a.2.2.2.2.1,i)) (f a)) λ(d,e,i,j,l,m)=>f (Step.next (d,e,Uw (i+1),(j,l,m)))) (f (Step.done a.2.2.2.2.2))
def qbr(A:zvT)(B:ql×qh->Ud)(C:zcR)(D:ql×qm->Uv (Sl qh))(E:vt)(x:ql×Int):Uv Uj:=Z (A x) λ(a,b,c,d)=>Z (ite d (Z (ite (q (a.M_=b.M_)) (Z (B (x.1,b)) λe=>ite e (f (c,g)) (f (c,q (b.M_=4)))) (f (c,N))) λ(e,i)=>ite i (f (y (O [e] g))) (f (y (O [] N)))) (f (M (x.2,x.1)))) λe=>F (λi=>f i) (λ(i,j)=>Z (C (j,i)) λ(l,_)=>Z (D (j,l)) λm=>Z (lpO (q5v A B C D E) (m,m.len,0,j,l,O [] N)) λn=>f n) e
def q16:ZC:=qbr q4l q4k q1v q3h q1r
theorem qck:q16=zhS.F:=by delta q16;rw[qkv,qkw,q9l,qkj,q86];kernel_rfl
def qbl(A:zcR)(B:vt)(x:ql×Int):GV:=Z (A x) λ(a,b)=>Z (ite b (ite (q (a.O_<=5)) (f (g,x.1,a)) (ite (q (a.O_=12)) (f (q (a.X_≠lit []),x.1,a)) (f (N,x.1,a)))) (f (N,x.1,a))) λ(c,d,e)=>ite c (Z (B (d.F_,e.X_)) λi=>f i) (f (-1))
def q1l:Vl:=qbl q1v q1r
theorem qeo:q1l=zls.F:=by delta q1l;rw[q9l,q86];kernel_rfl
def q6m(A:zhc)(B:ZC)(C:Vl):Int×Int×Int×ql×GX×Uj->Uv (Step (Int×Int×Int×ql×GX×Uj) (Int×ql×GX)):=λ(a,b,c,d,e,i)=>ite (q (c < b)) (Z (za i c) λj=>Z (za i c) λl=>Z (za e l) λm=>Z (za e l) λn=>f (Step.next (a,b,Uw (c+1),d,Sl.set e l N,i))) (f (Step.done (a,d,e)))
def qb5(A:zhc)(B:ZC)(C:Vl)(x:zqq):Uv GX:=Z (A x.2.2) λa=>Z (B (x.1,x.2.1)) λb=>Z (lpO (q6m A B C) (x.2.1,b.len,0,x.1,a,b)) λ(c,d,e)=>Z (C (d,c)) λi=>Z (ite (q (0<=i)) (Z (za e i) λj=>Z (za e i) λl=>f (Sl.set e i g)) (f e)) λj=>f j
def q42:zqq->Uv GX:=qb5 q1t q16 q1l
theorem qkk:q42=ztS.F:=by delta q42;rw[qen,qck,qeo];kernel_rfl
def qcb(A:zcR)(x:ql×Int):Uv Uj:=Z (A x) λ(a,b)=>Z (ite (!b) (f (x.2,g,a)) (ite (q (a.O_=14)) (f (x.2,g,a)) (f (x.2,q (a.O_=15),a)))) λ(c,d,e)=>Z (ite d (f (y (O [] N))) (Z (ite (q (e.O_=11)) (f (y (O [e.H_] g))) (Z (ite (q (e.O_=10)) (f (c,q (e.H_≠Uw (c+1)),e)) (f (c,N,e))) λ(i,j,l)=>ite j (f (y (O [Uw (i+1),l.H_] g))) (f (M i)))) λi=>F (λj=>f (y j)) (λj=>f (M j)) i)) λi=>F (λj=>f j) (λj=>f (O [Uw (j+1)] g)) i
def q1o:ZC:=qcb q1v
theorem qhh:q1o=zpd.F:=by delta q1o;rw[q9l];kernel_rfl
def q41(A:zqc)(B:ZC)(C:zhc)(D:zd7):Int×Int×Int×zic->Uv (Step (Int×Int×Int×zic) zic):=λ(a,b,c,d,e,i,j,l,m,n,o,p)=>ite (q (e < d)) (Z (Z (za m a) λr=>Z (za m a) λs=>Z (za m a) λt=>Z (za t e) λu=>Z (za m a) λv=>Z (za v e) λw=>ite w (Z (za n e) λz=>Z (za n e) λE=>f (a,e,b,c,d,e, !E,(i,j,l,m,n,o,p))) (f (a,e,b,c,d,e,N,(i,j,l,m,n,o,p)))) λ(r,s,t,u,v,w,z,E,G,H,I,J,K,L)=>Z (ite z (Z (za I r) λP=>Z (za I r) λQ=>Z (za I r) λR=>Z (za R s) λS=>Z (za I r) λT=>Z (za T s) λU=>Z (D (r,E,L,H)) λ(W,X,h)=>f (r,t,u,v,w,W,G,X,Sl.set I r (T.set s N),J,K,h)) (f (r,t,u,v,w,(E,G,H,I,J,K,L)))) λ(P,Q,R,S,T,U,W,X,h,a2,a3,a4)=>f (Step.next (P,Q,R,S,Uw (T+1),(U,W,X,h,a2,a3,a4)))) (f (Step.done (b,c,(i,j,l,m,n,o,p))))
def q3a(A:zqc)(B:ZC)(C:zhc)(D:zd7):zic->Uv (Step zic zeA):=λ(a,b,c,d,e,i,j,l,m)=>ite (q (b < a)) (Z (Z (za l b) λn=>Z (za l b) λo=>Z (za i o) λp=>Z (za i o) λr=>Z (za i o) λs=>ite (!s.nn) (Z (C j) λt=>Z (za i o) λu=>Z (za i o) λv=>Z (D (o,c,m,e)) λ(w,z,E)=>f (a,b,w,d,z,Sl.set i o t,j,l,E)) (Z (lpO (q41 A B C D) (o,a,b,Sl.len j,0,(c,d,e,i,j,l,m))) λG=>f G)) λ(n,o,p,r,s,t,u,v,w)=>f (Step.next (n,Uw (o+1),(p,r,s,t,u,v,w)))) (f (Step.done (c,d,e,i,m)))
def q83(A:zqc)(B:ZC)(C:zhc)(D:zd7)(x:zpU):Uv zeA:=Z (za x.2.2.2.2.2 x.1) λa=>Z (za x.2.2.2.2.2 x.1) λb=>Z (za x.2.2.2.2.2 x.1) λc=>Z (A (x.2.2.1,x.1,c)) λd=>Z (B (x.2.2.1,x.1)) λe=>Z (lpO (q3a A B C D) (e.len,0,x.2.1,x.2.2.1,x.2.2.2.2.1,x.2.2.2.2.2,d,e,x.2.2.2.1)) λi=>f i
def q2j:zpU->Uv zeA:=q83 q42 q1o q1t q2h
theorem qhx:q2j=ztT.F:=by delta q2j;rw[qkk,qhh,qen,qhu];kernel_rfl
def q4r(A:zd7)(B:zmm)(C:zpJ)(D:zuJ):Uj×Int×Int×zg4->Uv (Step (Uj×Int×Int×zg4) zg4):=λ(a,b,c,d,e,i,j,l,m)=>ite (q (c < b)) (Z (za a c) λn=>Z (A (n,(i,j,l,m))) λ(o,p,r)=>f (Step.next (a,b,Uw (c+1),d,e,o,r,p))) (f (Step.done (d,e,i,j,l,m)))
def q3i(A:zd7)(B:zmm)(C:zpJ)(D:zuJ):zg4->Uv (Step zg4 zaS):=λ(a,b,c,d,e,i)=>Z (B (c,d,e,i)) λ(j,l,m,n,o)=>ite (q (0 < j)) (Z (C (l,m,n,o)) λ(p,r,s,t)=>Z (D (p,r,a,t,(s.1,O (yN p s.2.xs) g),b)) λ(u,v,w,z,E)=>f (Step.next (v,z,u,E,w))) (f (Step.done (a,b)))
def qbs(A:zd7)(B:zmm)(C:zpJ)(D:zuJ)(x:zqg):Uv zaS:=Z (ite x.1 (f (x.2.1,x.2.2.1,x.2.2.2, -1,lit [],O [] g)) (f (x.2.1,x.2.2.1,x.2.2.2,1,lit [],O [] g))) λ(a,b,c,d,e,i)=>Z (lpO (q4r A B C D) (a,Sl.len a,0,b,c,d,O [] N,(e,i))) λj=>Z (lpO (q3i A B C D) j) λl=>f l
def q68:zqg->Uv zaS:=qbs q2h q2g q36 q2j
theorem qkz:q68=ztU.F:=by delta q68;rw[qhu,qfp,qjz,qhx];kernel_rfl
def q7r(A:zvz):zaO->Uv (Step zaO zaS):=λ(a,b,c,d)=>ite (q (b < a)) (Z (za d 0) λe=>Z (za d 0) λi=>Z (za d 0) λj=>Z (za j b) λl=>Z (za d 0) λm=>Z (za m b) λn=>f (Step.next (a,Uw (b+1),c,Sl.set d 0 (m.set b g)))) (f (Step.done (c,d)))
def qcf(A:zvz)(x:ql):Uv (Sl GX):=Z (xM 24 x.c_.L_.len (O [] N)) λa=>ite (q (a.len=0)) (f (O [] N)) (Z (xM 1 x.F_.V_.len N) λb=>Z (za a 0) λc=>Z (za a 0) λd=>Z (lpO (q7r A) (x.F_.P_,0,x,a.set 0 b)) λe=>Z (A (N,O [0] g,e)) λ(_,i)=>f i)
def q3m:zeR:=qcf q68
theorem qla:q3m=ztV.F:=by delta q3m;rw[qkz];kernel_rfl
def qc1:zjG->Uv (Step zjG zcW):=λa=>ite (q (a.2.1 < a.1)) (Z (za a.2.2.2 a.2.1) λb=>Z (za a.2.2.2 a.2.1) λc=>Z (ite (q (c.N_≠lit [])) (Z (zo 16 a.2.2.1 [c.N_]) λd=>f (a.1,a.2.1,d,a.2.2.2)) (f a)) λ(d,e,i,j)=>f (Step.next (d,Uw (e+1),(i,j)))) (f (Step.done a.2.2.1))
def qfl(x:qm):Uv zcW:=Z (ite (q (x.O_=5)) (f (q (x.O_=5),x)) (Z (ite (q (x.O_=6)) (f (q (x.O_=6),x)) (Z (ite (q (x.O_=7)) (f (q (x.O_=7),x)) (Z (ite (q (x.O_=8)) (f (q (x.O_=8),x)) (f (q (x.O_=9),x))) λa=>f a)) λa=>f a)) λa=>f a)) λ(a,b)=>Z (ite a (f (b,O ([]++[b.Y_]) (N || ![b.Y_].isEmpty))) (f (b,O [] N))) λ(c,d)=>Z (zo 24 (O [c.A_,c.B_] g) c.Q_.xs) λe=>Z (lpO qc1 (e.len,0,d,e)) λi=>f i
def q9k:zhd:=qfl
theorem qly:q9k=zpe.F:=jO
def q6x(A:zcR)(B:zhd)(C:vt):Int×Int×ql×Uj×zcW->Uv (Step (Int×Int×ql×Uj×zcW) Uj):=λ(a,b,c,d,e)=>ite (q (b < a)) (Z (za e b) λi=>Z (za e b) λj=>Z (C (c.F_,j)) λl=>Z (zo 8 d [l]) λm=>f (Step.next (a,Uw (b+1),c,m,e))) (f (Step.done d))
def qbm(A:zcR)(B:zhd)(C:vt)(x:ql×Int):Uv Uj:=Z (A x) λ(a,b)=>Z (ite b (Z (B a) λc=>Z (lpO (q6x A B C) (c.len,0,x.1,O [] N,c)) λd=>f d) (f (O [] N))) λc=>f c
def q1g:ZC:=qbm q1v q9k q1r
theorem qh5:q1g=zpf.F:=by delta q1g;rw[q9l,qly,q86];kernel_rfl
def q4s(A:zeR)(B:ZC)(C:ZC):Int×Int×Int×Int×Int×Int×ql×Sl GX×(Ut×Sl zA)×Uj->Uv (Step (Int×Int×Int×Int×Int×Int×ql×Sl GX×(Ut×Sl zA)×Uj) zvr):=λ(a,b,c,d,e,i,j,l,m,n)=>ite (q (i < e)) (Z (za n i) λo=>Z (za n i) λp=>Z (za l b) λr=>Z (za r p) λs=>Z (za l b) λt=>Z (za t p) λu=>ite (!u) (Z (za j.c_.L_ a) λv=>f (Step.done (y (v.a_,52)))) (f (Step.next (a,b,c,d,e,Uw (i+1),j,l,(m.1,O (Z8 p (Uw (zX p 0 m.2.xs+1)) m.2.xs) g),n)))) (f (Step.done (M (a,c,d,j,m,l))))
def q4t(A:zeR)(B:ZC)(C:ZC):Int×Int×Int×Int×Int×ql×(Ut×Sl zA)×Sl GX×Uj->Uv (Step (Int×Int×Int×Int×Int×ql×(Ut×Sl zA)×Sl GX×Uj) zvS):=λ(a,b,c,d,e,i,j,l,m)=>ite (q (e < d)) (Z (za m e) λn=>Z (za m e) λo=>ite (q (1 < zX o 0 j.2.xs)) (Z (za i.c_.L_ a) λp=>f (Step.done (y (p.a_,52)))) (f (Step.next (a,b,c,d,Uw (e+1),(i,j,l,m))))) (f (Step.done (M (b,c,i,l))))
def q3j(A:zeR)(B:ZC)(C:ZC):zaO->Uv (Step zaO Yp):=λa=>ite (q (a.2.1 < a.1)) (Z (Z (za a.2.2.2 a.2.1) λb=>Z (za a.2.2.2 a.2.1) λc=>Z (za a.2.2.2 a.2.1) λd=>ite (!d.nn) (f (y a)) (Z (B (a.2.2.1,a.2.1)) λe=>Z (lpO (q4s A B C) (a.2.1,a.2.1,a.1,a.2.1,e.len,0,a.2.2.1,a.2.2.2,(lit [],O [] g),e)) λi=>F (λj=>f (M j)) (λ(j,l,m,n,o,p)=>Z (C (n,j)) λr=>Z (lpO (q4t A B C) (j,l,m,r.len,0,n,o,p,r)) λs=>F (λt=>f (M t)) (λt=>f (y t)) s) i)) λb=>F (λ(c,d,e,i)=>f (Step.next (c,Uw (d+1),(e,i)))) (λc=>f (Step.done (y c))) b) (f (Step.done (M ())))
def qbt(A:zeR)(B:ZC)(C:ZC)(x:ql):Uv zA:=Z (A x) λa=>Z (lpO (q3j A B C) (a.len,0,x,a)) λb=>F (λc=>f c) (λc=>f (0,0)) b
def q29:Vk:=qbt q3m q1g q16
theorem qh6:q29=zpg.F:=by delta q29;rw[qla,qh5,qck];kernel_rfl
def qcx(A:zcL)(B:Vk)(C:ZC)(D:Vl)(x:Unit):Ud:=Z (A (lit [116,121,112,101,32,118,101,99,32,111,119,110,32,123,32,110,32,125,59,32,102,110,32,109,107,40,110,58,32,105,110,116,41,32,45,62,32,111,119,110,32,118,101,99,32,123,32,125,32,102,110,32,100,101,108,40,118,58,32,111,119,110,32,118,101,99,41,32,123,32,125],lit [102,110,32,109,97,105,110,40,41,32,123,32,118,32,61,32,109,107,40,51,41,59,32,119,32,61,32,118,59,32,100,101,108,40,118,41,59,32,125])) λ(a,b,_)=>ite (!a) (f N) (Z (za b 0) λc=>Z (za b 0) λd=>Z (B d) λ(e,i)=>Z (ite (q (i=52)) (ite (q (e=30)) (Z (za b 0) λj=>Z (za b 0) λl=>Z (C (l,1)) λm=>ite (q (m.len=1)) (Z (za b 0) λn=>Z (za b 0) λo=>Z (D (o,1)) λp=>f (q (p=1))) (f N)) (f N)) (f N)) λj=>f j)
def q22:zaQ:=qcx q1s q29 q16 q1l
theorem qjb:q22=ztW.F:=by delta q22;rw[qgb,qh6,qck,qeo];kernel_rfl
def q4c(A:zcL)(B:zaQ)(C:Vk)(D:ZC)(E:ZC)(G:Vl)(H:ZC):WA->Uv (Step WA (GX×Int×Int×ql×(Ut×Sl zA)×Sl ql)):=λ(a,b,c,d,e,i,j,l)=>ite (q (e < d)) (f (Step.next (a,b,c,d,Uw (e+1),i,(j.1,O (Z8 e 1 j.2.xs) g),l))) (f (Step.done (a,b,c,(i,j,l))))
def q4d(A:zcL)(B:zaQ)(C:Vk)(D:ZC)(E:ZC)(G:Vl)(H:ZC):GX×Int×Int×Int×Int×Int×Int×ql×(Ut×Sl zA)×Sl ql×Uj->Uv (Step (GX×Int×Int×Int×Int×Int×Int×ql×(Ut×Sl zA)×Sl ql×Uj) zpP):=λ(a,b,c,d,e,i,j,l,m,n,o)=>ite (q (j < i)) (Z (za o j) λp=>Z (za o j) λr=>ite (q (zX r 0 m.2.xs=0)) (f (Step.done (y N))) (f (Step.next (a,b,c,d,e,i,Uw (j+1),(l,m,n,o))))) (f (Step.done (M (a,b,c,d,e,l,m,n))))
def q4e(A:zcL)(B:zaQ)(C:Vk)(D:ZC)(E:ZC)(G:Vl)(H:ZC):GX×Int×Int×Int×Int×Int×Int×ql×(Ut×Sl zA)×Sl ql×Uj->Uv (Step (GX×Int×Int×Int×Int×Int×Int×ql×(Ut×Sl zA)×Sl ql×Uj) zpP):=λ(a,b,c,d,e,i,j,l,m,n,o)=>ite (q (j < i)) (Z (za o j) λp=>Z (za o j) λr=>ite (q (zX r 0 m.2.xs=0)) (f (Step.done (y N))) (f (Step.next (a,b,c,d,e,i,Uw (j+1),l,(m.1,O (Z8 r 0 m.2.xs) g),(n,o))))) (f (Step.done (M (a,b,c,d,e,l,m,n))))
def q2v(A:zcL)(B:zaQ)(C:Vk)(D:ZC)(E:ZC)(G:Vl)(H:ZC):WA->Uv (Step WA zv1):=λ(a,b,c,d,e,i,j,l)=>ite (q (c < 400)) (Z (Z (D (i,b)) λm=>Z (lpO (q4d A B C D E G H) (a,b,c,d,e,m.len,0,i,j,l,m)) λn=>F (λo=>f (y o)) (λ(o,p,r,s,t,u,v,w)=>Z (E (u,p)) λz=>Z (lpO (q4e A B C D E G H) (o,p,r,s,t,z.len,0,u,v,w,z)) λI=>F (λJ=>f (y J)) (λJ=>Z (G (J.2.2.2.2.2.1,J.2.1)) λK=>Z (ite (q (0<=K)) (f (J.1,J.2.1,J.2.2.1,J.2.2.2.1,J.2.2.2.2.1,J.2.2.2.2.2.1,(J.2.2.2.2.2.2.1.1,O (Z8 K 1 J.2.2.2.2.2.2.1.2.xs) g),J.2.2.2.2.2.2.2)) (f J)) λ(L,P,Q,R,S,T,U,W)=>Z (H (T,P)) λX=>ite (q (X.len=0)) (f (M (y (L,R,S,W)))) (Z (za X 0) λa1=>Z (za X 0) λa2=>Z (ite (q (1 < X.len)) (ite (q (Q < Sl.len L)) (Z (za L Q) λa3=>f (L,a2,Q,R,S,a3,T,U,X,W)) (f (L,a2,Q,R,S,N,T,U,X,W))) (f (L,a2,Q,R,S,N,T,U,X,W))) λ(a3,a4,a5,h,a7,a8,a9,k,b2,x)=>Z (ite a8 (Z (za b2 1) λb4=>Z (za b2 1) λb5=>f (a3,b5,a5,h,a7,a9,k,x)) (f (a3,a4,a5,h,a7,a9,k,x))) λb4=>f (M (M b4)))) I) n) λm=>F (λn=>f (Step.done (y n))) (λn=>F (λo=>f (Step.done (M o))) (λ(o,p,r,s,t,u,v,w)=>f (Step.next (o,p,Uw (r+1),(s,t,u,v,w)))) n) m) (f (Step.done (M (a,d,e,l))))
def q3k(A:zcL)(B:zaQ)(C:Vk)(D:ZC)(E:ZC)(G:Vl)(H:ZC):zeQ->Uv (Step zeQ (Bool⊕Unit)):=λa=>ite (q (a.2.2.1 < a.2.1)) (Z (Z (za a.2.2.2 a.2.2.1) λb=>Z (za a.2.2.2 a.2.2.1) λc=>Z (C c) λ(_,d)=>ite (q (d≠0)) (f (y a)) (Z (lpO (q4c A B C D E G H) (a.1,a.2.1,a.2.2.1,c.F_.P_,0,c,(lit [],O [] g),a.2.2.2)) λ(e,i,j,l,m,n)=>Z (lpO (q2v A B C D E G H) (e,0,0,(i,j,l,m,n))) λo=>F (λp=>f (M p)) (λp=>f (y p)) o)) λb=>F (λ(c,d,e,i)=>f (Step.next (c,d,Uw (e+1),i))) (λc=>f (Step.done (y c))) b) (f (Step.done (M ())))
def qap(A:zcL)(B:zaQ)(C:Vk)(D:ZC)(E:ZC)(G:Vl)(H:ZC)(x:zqi):Ud:=Z (A (x.1,x.2.1)) λ(a,b,_)=>Z (Z (B ()) λc=>ite (!c) (f (x.2.2,g,b)) (f (x.2.2, !a,b))) λ(c,d,e)=>ite d (Z (B ()) λi=>f i) (Z (lpO (q3k A B C D E G H) (c,Sl.len e,0,e)) λj=>F (λl=>f l) (λl=>f g) j)
def qb6:zqi->Ud:=qap q1s q22 q29 q1g q16 q1l q1o
theorem qhj:qb6=zfG.F:=by delta qb6;rw[qgb,qjb,qh6,qh5,qck,qeo,qhh];kernel_rfl
end
end Go.Px
