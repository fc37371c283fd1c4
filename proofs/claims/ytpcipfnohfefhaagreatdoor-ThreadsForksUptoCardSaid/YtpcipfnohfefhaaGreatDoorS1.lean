/- Part S1: PxSm. -/
import Derived.Test.YtpcipfnohfefhaaGreatDoorCh
set_option linter.unusedVariables false
set_option linter.unusedSimpArgs false
namespace Go.Px
open Bool renaming true->g,false->N
open _root_.ByteArray renaming size->V
open Decidable renaming decide->q
open _root_.Option renaming some->f,none->W
open Sl renaming mk->O
open Sum renaming inl->y,elim->F,inr->M
open Go.Proofs
set_option maxRecDepth 100000
set_option maxHeartbeats 4000000
noncomputable section
abbrev kg(a:q6):=q6.mk a.k_ a.T_ a.n_ a.a_ a.K_
abbrev kr(a:q7):=q7.mk a.k_ a.T_ a.n_ a.a_ a.K_
abbrev zP:=Int×Int
abbrev zU:=Uq×zP
abbrev GI:=Int×zU
abbrev XS:=q8×GI×GI
abbrev GL:=Sl q6
abbrev Y9:=q8×GI×GI×GL
abbrev tA0:=zP×XS⊕Y9⊕XS
abbrev GD:=Int×Int×Uq×Uq×Uq×Int×Uq×Int×Int×Bool
abbrev zpe:=GD×Sl ql
abbrev tA1:=GD×zpe
abbrev GT:=Sl qa
abbrev GJ:=zU×Sl qp×Sl qr
abbrev zpl:=GT×q6×GL×GL×GJ
abbrev zaI:=zP×GJ⊕GJ
abbrev tA2:=zpl->Us zaI
abbrev GP:=Sl qc
abbrev GR:=Sl qk×Sl qq
abbrev GO:=Sl q7
abbrev GU:=Int×Int×GP×zU×GO×GO×zU×Sl Int×GR
abbrev tA4:=Int×Int×GP×zU×GR⊕GU
abbrev tA5:=GD×GD
abbrev GM:=Int×Int×zP
abbrev Ug:=Sl q9
abbrev zlR:=GM×Ug×GI×GI
abbrev tA6:=GM×Ug×GI×GO⊕zlR
abbrev GF:=Uq×zU
abbrev Ub:=Int×Int×GF
abbrev Um:=Sl qh
abbrev GW:=Int×Int×q7×GF×GF×q7×qh×Um
abbrev tA7:=Ub⊕GP×GW
abbrev Uj:=Sl qb
abbrev GE:=(Sl qd×GT×zP)×Uj
abbrev zpo:=GL×(Int×zP)×GE
abbrev zO:=zP×GE⊕GE
abbrev GY:=Us zO
abbrev tA8:=zpo->GY
abbrev zpw:=q6×GL×GJ
abbrev tA9:=zpw->Us zaI
abbrev Ua:=Int×Int×q7×GF×GF×q7×Um
abbrev zzs:=Ub⊕GP×Ua
abbrev zi0:=Bool×Int×GE
abbrev zpt:=q6×zi0
abbrev zug:=zpt->GY
abbrev Ul:=Int×Int×GP×zU×Sl qk
abbrev GV:=Int×GP×zU×GO×GO×q7×zU×q7×Sl qk
abbrev zzt:=Ul⊕GV
abbrev zpC:=Uq×GE
abbrev WM:=zP×GE⊕qf×GE
abbrev zzu:=zpC->Us WM
abbrev zpy:=Uq×qf×GE
abbrev zuh:=zpy->GY
abbrev Ui:=Sl qd×GT×Int
abbrev GG:=Ui×Uj
abbrev zpU:=q6×GG
abbrev zZ:=Uq×Int
abbrev Uh:=Sl qf
abbrev zlP:=zP×GG⊕zZ×Ui×Uj×Uh
abbrev zui:=zpU->Us zlP
abbrev zzv:=Ub⊕GT×Int×q6×GF×GF×Uh
abbrev zzw:=Ub⊕GP×Int×q7×GF×GF×Um
abbrev WK:=zi0->GY
abbrev zpH:=q6×qf×GE
abbrev zfr:=zpH->GY
abbrev zd9:=q6×GE
abbrev zo3:=zd9->Us WM
abbrev zpd:=qf×GE⊕zP×GE
abbrev zuj:=zd9->Us zpd
abbrev zvJ:=GL×GE
abbrev zcb:=zvJ->GY
abbrev Uc:=GP×zU×GO×GO×q7×zU×Sl qk
abbrev zzy:=Ul⊕Uc
abbrev zzz:=Int×Int×GP×zU×GR⊕GP×zU×zU×GR
abbrev zi6:=Bool×Int×GG
abbrev zpB:=q6×zi6
abbrev xR:=zP×GG⊕GG
abbrev zlM:=zpB->Us xR
abbrev GS:=Int×Ui×Uj×q6×zZ×zZ×Uh
abbrev zzA:=zP×GG⊕GS
abbrev zul:=zi6->Us xR
abbrev zg:=zP×q8
abbrev zum:=zg⊕q8×GI×GL⊕XS
abbrev xa:=GI×Int×Int×GL
abbrev zag:=zP×xa
abbrev zzD:=zag->Us xa
abbrev zun:=GP×Int×GW
abbrev zup:=GT×Int×GL×Int×Int×q6×GF×GF×Uh
abbrev zC:=GM×Ug
abbrev Yf:=Int×zC
abbrev zam:=GM×Ug×GO
abbrev ZI:=GI×zam
abbrev zo5:=Yf->Us ZI
abbrev zuq:=GP×Int×Ua
abbrev Yw:=zC->Us ZI
abbrev zcq:=Sl Uq
abbrev zur:=Int×GM×Ug×GI×GI×zcq
abbrev zo6:=Int×GU
abbrev zzF:=zag⊕xa
abbrev zus:=Int×Int×Int×GP×zU×GO×GO×zU×Sl qq×GR
abbrev GH:=Sl qg×GP×zP
abbrev Ud:=Sl qe
abbrev ZB:=GH×Ud
abbrev zgB:=q7×ZB
abbrev ziY:=zZ×GH×Ud×Um
abbrev zut:=zgB->Us ziY
abbrev Ue:=Sl qi
abbrev GN:=Int×Int×Ue×Int×Int×Int×Int×qj×(Uq×Sl zP)×Sl qj×Sl Int
abbrev zuu:=Int×Bool×Int×GN
abbrev Uk:=zU×Sl qp×Sl qr×q6×zP
abbrev zzG:=zP×GJ⊕Uk
abbrev We:=GL×Int×Int×(Sl qd×GT×zP)×Uj×qf
abbrev zdx:=zP×GE⊕We
abbrev zzH:=xa->Us xa
abbrev xD:=GM×Ug×GI×GI×GO
abbrev VM:=Bool×xD
abbrev zo7:=Int×GL×Int×GS
abbrev zzI:=Int×Bool×Ue×q6×GD
abbrev zlN:=Int×Bool×GN
abbrev Uo:=q6×zU×GL×zU×Sl qp
abbrev zo8:=GT×GL×GL×Int×Int×Uo
abbrev Ye:=GI×zC
abbrev WL:=zC->Us Ye
abbrev zo9:=GP×Int×Int×q7×GF×GF×Um
abbrev zcc:=q7->Us zpe
abbrev xb:=Int×zgB
abbrev WV:=Int×ZB
abbrev vD:=qh×WV
abbrev zlO:=xb->Us vD
abbrev zfs:=GI×GM×GI×Ug×GO
abbrev zpa:=Int×GV
abbrev zzL:=zg⊕q8×GI×GL⊕q8×q6×GI
abbrev zlQ:=Int×Int×GP×zU×GO×GO×zU×GR
abbrev vn:=Ue×GD×Sl qt
abbrev zzO:=Int×GH×Ud×q7×zZ×zZ×Um
abbrev zuw:=Int×zzO
abbrev zux:=xb->Us WV
abbrev zzM:=zP⊕GT×GL×Uo
abbrev zvy:=Int×GO×ZB
abbrev zcd:=zvy->Us ZB
abbrev GZ:=Uj×GH×Ud×Sl q1e×Sl q19
abbrev zpb:=Int×GL×Int×Int×q10×q7×GZ
abbrev zi2:=Int×WV
abbrev zdy:=zi2->Us ZB
abbrev zuA:=zg⊕q8×q6⊕XS
abbrev zce:=zg⊕Y9
abbrev zuB:=GL×GL×Int×Int×zU×GJ
abbrev xc:=Uq×zC
abbrev zW:=Bool×zC
abbrev yc:=xc->Us zW
abbrev zpc:=Int×Uc
abbrev zzP:=Int×Bool×Int×Int×Int×Ue×Int×Int×qj×(Uq×Sl zP)×Sl qj
abbrev zzQ:=Ue×GD
abbrev ziX:=Bool×XS
abbrev zpf:=Uq×Int×ziX
abbrev zzR:=Int×GH×Ud×qh⊕GH×Ud×qh
abbrev Y8:=xc->Us zC
abbrev zgv:=GL×GL×Int×Int×Uk
abbrev Zu:=q7×zC
abbrev zu5:=Zu->Us Zu
abbrev Un:=Sl qg×(GT×GP)×GL×GO
abbrev ziS:=Int×Int×GL×Int×Int×Sl qd×q7×Un
abbrev zpg:=zC->Us zam
abbrev Uf:=Int×q8
abbrev yu:=q8×GL
abbrev Zj:=zg⊕GI×yu
abbrev ziT:=Uf->Us Zj
abbrev Wd:=Yf->Us zC
abbrev ziU:=zC->Us Yf
abbrev zph:=GL×Int×Int×We
abbrev zje:=Uq×zZ×Um
abbrev zee:=Int×zZ×Um
abbrev zu8:=zje->Us zee
abbrev wg:=zC->Us Zu
abbrev zcf:=WV⊕ZB
abbrev zu9:=zP⊕zU×GJ
abbrev zva:=xc⊕zC
abbrev ziW:=zP×q6×zP⊕q6×Int×Int×GG
abbrev ZQ:=q8->Us Zj
abbrev zvl:=GI×yu⊕zg
abbrev zpi:=q8->Us zvl
abbrev zpj:=(Int×zP)×GL×Int×Int×GE
abbrev zgy:=zP⊕GJ
abbrev zvb:=GT×q6->Us zgy
abbrev zvc:=ZB⊕ZB
abbrev zvd:=Int×q10×GZ
abbrev Z3:=zg⊕GI×q8
abbrev wh:=q8->Us Z3
abbrev zaf:=GL×Int×Int×q6×Int×Int×GG
abbrev zpz:=Int×Int×GH×Ud×q7
abbrev zpm:=Int×GO×zpz
abbrev zqi:=q7×Sl qg×GP
abbrev zvh:=zqi->Us ZB
abbrev zvI:=Uq×Uq×zcq×Ue
abbrev zgw:=GL×Int×Int×zvI
abbrev zpn:=Uh×GL×Int×Int×GE
abbrev zpL:=Int×GO×(Int×zP)×Ud
abbrev Z5:=Int×Ud
abbrev Up:=Us Z5
abbrev zvj:=zpL->Up
abbrev zgx:=Int×Bool×Int×Int×Ue×Int×Int×qj×Sl qj
abbrev zvk:=Bool⊕zgx
abbrev zah:=zg⊕q8×q6⊕q8×GI
abbrev xh:=Int×Int×GT
abbrev zvm:=zP×q6×xh⊕q6×xh
abbrev zjj:=zP×xh
abbrev zvn:=zjj->Us xh
abbrev Yg:=Int×Int×Uj
abbrev zjl:=zP×Yg
abbrev zpp:=zjl->Us Yg
abbrev zvo:=Int×Int×Sl qd×Un
abbrev zvp:=zee⊕zZ×Um
abbrev zpr:=Int×Int×GH×Ud×q7×qh
abbrev zvs:=zg⊕q8×q6×GI
abbrev zd2:=Int×GO×WV
abbrev zd3:=GI×Int×Int×yu
abbrev xf:=Uq×Uq
abbrev zps:=Uq×(Uq×xf)×Int
abbrev zpu:=Int×Int×Int×Int×Int×q7×Sl qm×q7×Sl qm
abbrev zvA:=Int×q7×Uq×Uq×zcq
abbrev zpv:=Int×zvA
abbrev zgJ:=Bool×Sl qj×Sl qy
abbrev zd4:=xf->Us zgJ
abbrev zpx:=Int×GM×Ug×zcq
abbrev ziZ:=GL×Uh×GE
abbrev zcl:=Int×Uq×Ud
abbrev zat:=qh×Z5
abbrev zvu:=zcl->Us zat
abbrev zao:=Uq×GM
abbrev zvw:=zao->Us (Sl qr)
abbrev zd5:=zao->Us (Sl qq)
abbrev zp2:=Int×GO×Um×Ud
abbrev zvx:=zp2->Up
abbrev zjK:=q10×q1k×Bool
abbrev zvz:=xf->Us zjK
abbrev Wg:=Uq×q8
abbrev ya:=zg⊕q8
abbrev Xi:=Wg->Us ya
abbrev vF:=zg⊕Uf
abbrev zi1:=Uf->Us vF
abbrev zvX:=Wg⊕zg
abbrev zpA:=q8->Us zvX
abbrev zqh:=q6×Sl qd×GT
abbrev zvB:=zqh->Us Yg
abbrev zgG:=zg⊕qn×q8
abbrev zvC:=Uf->Us zgG
abbrev zpD:=(Uq×xf)×Uf
abbrev zvD:=xh->Us xh
abbrev zpE:=Yg->Us Yg
abbrev zpF:=zcl->Up
abbrev zpW:=Uq×zcq×Sl qm
abbrev zch:=q7->Us zpW
abbrev ZR:=zg⊕q6×q8
abbrev zpG:=q6×q8->Us ZR
abbrev zpI:=Int×GO×(Int×zP)×Z5
abbrev XU:=GL×Uq
abbrev yA:=Int×Uq
abbrev zvG:=XU->Us yA
abbrev zaj:=Uq×Int×Int×Int×Bool×q9×q9
abbrev zpJ:=GM×Ug×q7×GO
abbrev wj:=q7×GP
abbrev zjy:=qc×Int×Int×GP
abbrev zvH:=wj->Us zjy
abbrev zqe:=Int×q7×qh×Ud
abbrev zd6:=zqe->Up
abbrev yS:=zg⊕yu
abbrev YV:=q8->Us yS
abbrev zjL:=Bool×q6×Int
abbrev Yh:=zP⊕Unit
abbrev zd7:=zjL->Us Yh
abbrev zd8:=Int×Yf
abbrev zpK:=Uq×zee
abbrev zjN:=qa×Uq
abbrev Z4:=Bool×Uq
abbrev zvK:=zjN->Us Z4
abbrev zau:=q6×Uq
abbrev zi5:=zau->Us Z4
abbrev zgA:=GL×Int×Int×q6×xh
abbrev zjQ:=qf×Uq
abbrev zvL:=zjQ->Us Z4
abbrev zi7:=zU->Us (qn×Int)
abbrev zp3:=q6×q8⊕zg
abbrev zi8:=q8->Us zp3
abbrev YW:=q8->Us ZR
abbrev zjB:=qf×qf×Int×Bool
abbrev zvN:=qj×Int->Us zjB
abbrev Xk:=Uh×qf
abbrev zas:=Bool×Xk
abbrev zja:=Xk->Us zas
abbrev vK:=q6×GT
abbrev zjG:=Int×Int×Sl qd
abbrev zvO:=vK->Us zjG
abbrev zjH:=Int×Int×Sl qg
abbrev zvP:=wj->Us zjH
abbrev zvQ:=Int×Int×Int×Int×q7×Sl qm×q7
abbrev zqj:=Int×Int×Sl qn
abbrev zjb:=Uq->Us zqj
abbrev WZ:=Int×Xk
abbrev zvR:=Xk->Us WZ
abbrev zjc:=Uq->Us (Int×Int×Ug)
abbrev zgK:=Int×Uj×q6
abbrev zpM:=Uj×q6->Us zgK
abbrev zpN:=Int×Int×qj×Sl Int×zcq
abbrev zju:=zcq×Uq
abbrev GQ:=Us Int
abbrev zvT:=zju->GQ
abbrev zpO:=Int×Int×q10×q1k×Sl qj×Sl qy
abbrev zjI:=Int×Int×Sl qj
abbrev zvU:=Bool⊕Int×Bool×zjI
abbrev zan:=Uf->Us zg
abbrev zpP:=zcq×zU
abbrev zjO:=qd×zP
abbrev zvV:=vK->Us zjO
abbrev zjP:=qg×zP
abbrev zvW:=wj->Us zjP
abbrev zpR:=Int×Int×Int×q7×Sl qm×Sl qm
abbrev zjf:=Uh×Int×Int×qj×qi×Sl Int
abbrev GX:=Us Bool
abbrev zpS:=xf->GX
abbrev zH:=Bool×q8
abbrev Zv:=Wg->Us zH
abbrev zp9:=qa×Uq×GL
abbrev zeb:=zp9->GQ
abbrev zpT:=zZ->Us (q9×Int)
abbrev zec:=Uq->Us (q6×zP)
abbrev zed:=Uq->Us (q7×zP)
abbrev zjS:=GL×GL
abbrev zgC:=GL×Int×Int×zjS
abbrev zjh:=GT×GL×zjG
abbrev vJ:=Int×Ue
abbrev zgD:=qi×Ue->Us vJ
abbrev zpV:=Int×GO×Um×Z5
abbrev zji:=Int×Int×zcq×Sl qt
abbrev zpX:=XU->GX
abbrev zgE:=Uq×Int×Int×q9×q9
abbrev zgL:=qh×Bool
abbrev zjk:=wj->Us zgL
abbrev zjm:=q6->Us xh
abbrev zjn:=q7->Us (Int×Int×GP)
abbrev zjo:=Uq->Us (q10×Bool)
abbrev zcr:=Uh×qj
abbrev vL:=Bool×qj
abbrev zvY:=zcr->Us vL
abbrev zcn:=GT×Uq
abbrev zck:=zcn->GQ
abbrev zvZ:=vK->Us (qf×Int)
abbrev zjD:=GP×Uq
abbrev vE:=zjD->GQ
abbrev zjE:=GO×Uq
abbrev zef:=zjE->GQ
abbrev zeu:=Uj×qi
abbrev zpY:=zeu->Us (Int×qi)
abbrev zv1:=zP⊕Uq×Sl qn
abbrev zpZ:=GT×Int×yA
abbrev zeg:=GL×Int×yA
abbrev zjp:=WZ⊕Xk
abbrev zv2:=zP⊕Uq×Ug
abbrev zp0:=Uh×Int×yA
abbrev zv3:=zgK⊕Uj×q6
abbrev yI:=q6×Ue->Us Ue
abbrev zp1:=Int×Uq×Z5
abbrev zcs:=qi×Bool
abbrev zgF:=qj×Int->Us zcs
abbrev Wf:=zZ->GQ
abbrev zjq:=Uq->Us Uq
abbrev Wi:=Bool×qf
abbrev zjr:=qf×qf->Us Wi
abbrev zgM:=Bool×q6
abbrev zv4:=qd×q6->Us zgM
abbrev Yi:=Bool×qi
abbrev zjs:=qb×qi->Us Yi
abbrev zv5:=qf×qj->Us vL
abbrev zv6:=qd×qi->Us Yi
abbrev zaq:=yA⊕Uq
abbrev zei:=q6->Us zjS
abbrev vG:=qb×Uq->GQ
abbrev vH:=q7×Int->Us (Sl qm)
abbrev zjt:=zg⊕q8×q6
abbrev zgH:=qi->Us zcq
abbrev WX:=qj×Int->Us (Sl Int)
abbrev zek:=q7×Int->Us GO
abbrev zp4:=GL×Int×Int×Sl qt
abbrev zp5:=GL×Int×vJ
abbrev zjv:=GP×Int×q7×Sl qg
abbrev WY:=Uq->GX
abbrev zgI:=Uq×Int×Sl qn
abbrev zp6:=Int×GL×zP
abbrev vI:=Uq×Int×Ug
abbrev zp7:=GP×zZ
abbrev zp8:=GO×zZ
abbrev zar:=qj->Us zP
abbrev zem:=Int×WZ
abbrev zjx:=Int×Int×q7×GO
abbrev zqa:=Sl qd×Int×Int×q6
abbrev zqb:=Int×zgK
abbrev zen:=Int×Int×q7×Sl qm
abbrev zeo:=Uj×Int×Int×qi
abbrev zqc:=Uh×Int×Int×qj
abbrev zjz:=Ue×Int×Int×qj
abbrev zqd:=Sl qd×Int×Int×qi
abbrev xg:=q8->Us (qn×q8)
abbrev zqf:=q6×Int->Us qt
abbrev zjC:=q6->Us (Sl qt)
abbrev zep:=Z5⊕Ud
abbrev zqg:=GO×Int×Sl ql
abbrev zcm:=Unit->GX
abbrev zL:=Int->GX
abbrev zjF:=Uh×Uq
abbrev zjJ:=Int×wj
abbrev XV:=q6->GQ
abbrev XW:=q7->GQ
abbrev zjM:=q6×q6×Ue
abbrev zco:=q6->Us q1e
abbrev zeq:=Int×Uf
abbrev zcp:=q6->Us qt
abbrev zjR:=q6->Us q6
abbrev Wh:=q7->Us ql
abbrev zer:=Int×qi⊕qi
abbrev zes:=Int⊕Unit
abbrev zet:=qf×GT
abbrev zhF:=zcb
abbrev Wc:=Yw
abbrev zhG:=zcd
abbrev zej:=yI
abbrev zel:=vH
abbrev Zq:=Uq
theorem eqT{α:Type}{a b c d:α}(h:a=b)(k:b=c)(l:c=d):a=d:=h.trans (k.trans l)
def qfl(x:Int):GX:=f (q (x≠10))
def qbt:zL:=qfl
theorem ql2:@Eq zL P0.F qbt:=by kernel_rfl
def qk2(A:zL):zZ->Us (Step zZ Int):=λa=>(if q (a.2 < (↑(V a.1):Int))=g then(Zf a.1 a.2).bind λb=>(A b).bind λc=>f (a.1,a.2,c) else f (a.1,a.2,N)).bind λb=>if b.2.2=g then f (Step.next (b.1,Ut (b.2.1+1))) else f (Step.done b.2.1)
def qgh(A:zL)(x:zZ):GQ:=(lpO (qk2 A) x).bind λa=>f a
def qbn:zZ->GQ:=qgh qbt
theorem qki:@Eq ((zZ)->Us Int) P1.F qbn:=by delta qbn;rw[<-ql2];kernel_rfl
def qh3(x:Int):GX:=(if q (48<=x)=g then f (q (x<=57)) else f N).bind λa=>f a
def qac:zL:=qh3
theorem qhi:@Eq zL P2.F qac:=by kernel_rfl
def q6g(A:zL):zZ->Us (Step zZ Int):=λa=>(if q (a.2 < (↑(V a.1):Int))=g then(Zf a.1 a.2).bind λb=>(A b).bind λc=>f (a.1,a.2,c) else f (a.1,a.2,N)).bind λb=>if b.2.2=g then f (Step.next (b.1,Ut (b.2.1+1))) else f (Step.done b.2.1)
def qh7(A:zL)(x:zZ):GQ:=(lpO (q6g A) x).bind λa=>f a
def qdi:zZ->GQ:=qh7 qac
theorem ql0:@Eq ((zZ)->Us Int) P3.F qdi:=by delta qdi;rw[<-qhi];kernel_rfl
def qdl:=X3
theorem qk3:F4=qdl:=rfl
def qgm(x:Int):GX:=(if q (97<=x)=g then if q (x<=122)=g then f g else f (q (x=95)) else f (q (x=95))).bind λa=>f a
def q8k:zL:=qgm
theorem qh8:@Eq zL P5.F q8k:=by kernel_rfl
def qgo(A:zU->Us (Int⊕Int))(B:zL)(x:zU):Us (qn×Int):=(ZJ x.1 x.2.1 x.2.2).bind λa=>((A (a,10,64)).bind λb=>F (λc=>f (y (x.1,x.2.1,x.2.2,a,c,qn.mk 0 (lit []) 0 0))) (λc=>f (M (x.1,x.2.1,x.2.2,a,c,qn.mk 0 (lit []) 0 0))) b).bind λb=>F (λc=>if q (1099511627776 < c.2.2.2.2.1)=g then f (qn.mk 0 (lit []) 0 0,12) else if q (1 < (↑(V c.2.2.2.1):Int))=g then(Zf c.2.2.2.1 0).bind λd=>if q (d=48)=g then f (qn.mk 0 (lit []) 0 0,12) else if q (c.2.2.1 < (↑(V c.1):Int))=g then(Zf c.1 c.2.2.1).bind λe=>(B e).bind λi=>if i=g then f (qn.mk 0 (lit []) 0 0,12) else f (qn.mk 3 c.2.2.2.1 c.2.2.2.2.1 c.2.1,0) else f (qn.mk 3 c.2.2.2.1 c.2.2.2.2.1 c.2.1,0) else if q (c.2.2.1 < (↑(V c.1):Int))=g then(Zf c.1 c.2.2.1).bind λj=>(B j).bind λl=>if l=g then f (qn.mk 0 (lit []) 0 0,12) else f (qn.mk 3 c.2.2.2.1 c.2.2.2.2.1 c.2.1,0) else f (qn.mk 3 c.2.2.2.1 c.2.2.2.2.1 c.2.1,0)) (λc=>f (qn.mk 0 (lit []) 0 0,12)) b
def qdk:zU->Us (qn×Int):=qgo qdl q8k
theorem qlb:@Eq ((zU)->Us (qn×Int)) P6.F qdk:=by delta qdk;rw[<-qk3,<-qh8];kernel_rfl
def qgn(A:zL)(B:zL)(x:Int):GX:=((A x).bind λa=>if a=g then f g else(B x).bind λb=>f b).bind λa=>f a
def qdj:zL:=qgn q8k qac
theorem qlc:@Eq zL P7.F qdj:=by delta qdj;rw[<-qh8,<-qhi];kernel_rfl
def qkj(A:zL):zZ->Us (Step zZ Int):=λa=>(if q (a.2 < (↑(V a.1):Int))=g then(Zf a.1 a.2).bind λb=>(A b).bind λc=>f (a.1,a.2,c) else f (a.1,a.2,N)).bind λb=>if b.2.2=g then f (Step.next (b.1,Ut (b.2.1+1))) else f (Step.done b.2.1)
def qgy(A:zL)(x:zZ):GQ:=(lpO (qkj A) x).bind λa=>f a
def qcc:zZ->GQ:=qgy qdj
theorem qkx:@Eq ((zZ)->Us Int) P8.F qcc:=by delta qcc;rw[<-qlc];kernel_rfl
def qh4(x:Zq):GX:=(if q (x=lit [116,121,112,101])=g then f (q (x=lit [116,121,112,101])) else(if q (x=lit [102,110])=g then f (q (x=lit [102,110])) else(if q (x=lit [111,119,110])=g then f (q (x=lit [111,119,110])) else(if q (x=lit [99,101,108,108])=g then f (q (x=lit [99,101,108,108])) else(if q (x=lit [99,111,117,110,116,101,100])=g then f (q (x=lit [99,111,117,110,116,101,100])) else(if q (x=lit [108,111,99,107])=g then f (q (x=lit [108,111,99,107])) else(if q (x=lit [103,117,97,114,100])=g then f (q (x=lit [103,117,97,114,100])) else(if q (x=lit [119,104,101,114,101])=g then f (q (x=lit [119,104,101,114,101])) else(if q (x=lit [105,110,116])=g then f (q (x=lit [105,110,116])) else(if q (x=lit [109,117,116])=g then f (q (x=lit [109,117,116])) else(if q (x=lit [102,114,101,101])=g then f (q (x=lit [102,114,101,101])) else(if q (x=lit [117,110,108,111,99,107])=g then f (q (x=lit [117,110,108,111,99,107])) else(if q (x=lit [105,102])=g then f (q (x=lit [105,102])) else(if q (x=lit [101,108,115,101])=g then f (q (x=lit [101,108,115,101])) else(if q (x=lit [119,104,105,108,101])=g then f (q (x=lit [119,104,105,108,101])) else(if q (x=lit [114,101,116,117,114,110])=g then f (q (x=lit [114,101,116,117,114,110])) else(if q (x=lit [97,98,111,114,116])=g then f (q (x=lit [97,98,111,114,116])) else(if q (x=lit [102,111,114,107])=g then f (q (x=lit [102,111,114,107])) else(if q (x=lit [110,101,119])=g then f (q (x=lit [110,101,119])) else f (q (x=lit [97,114,114,97,121]))).bind λa=>f a).bind λa=>f a).bind λa=>f a).bind λa=>f a).bind λa=>f a).bind λa=>f a).bind λa=>f a).bind λa=>f a).bind λa=>f a).bind λa=>f a).bind λa=>f a).bind λa=>f a).bind λa=>f a).bind λa=>f a).bind λa=>f a).bind λa=>f a).bind λa=>f a).bind λa=>f a).bind λa=>if a=g then f g else f N
def qe6:WY:=qh4
theorem qli:@Eq WY P9.F qe6:=by kernel_rfl
def qhh(A:WY)(x:zU):Us (qn×Int):=(ZJ x.1 x.2.1 x.2.2).bind λa=>if q (16 < (↑a.size:Int))=g then f (qn.mk 0 (lit []) 0 0,13) else(A a).bind λb=>(if b=g then f (qn.mk 0 (lit []) 0 0,qn.mk 2 a 0 x.2.1) else f (qn.mk 0 (lit []) 0 0,qn.mk 1 a 0 x.2.1)).bind λc=>f (c.2,0)
def qfm:zU->Us (qn×Int):=qhh qe6
theorem qlm:@Eq ((zU)->Us (qn×Int)) P10.F qfm:=by delta qfm;rw[<-qli];kernel_rfl
def q4e(x:xf):GX:=(if q ((↑(V x.2):Int)<=(↑(V x.1):Int))=g then(ZJ x.1 0 (↑(V x.2):Int)).bind λa=>f (q (a=x.2)) else f N).bind λa=>f a
def qaj:xf->GX:=q4e
theorem qev:@Eq ((xf)->Us Bool) P11.F qaj:=by kernel_rfl
def qfp(A:zpS)(x:xf):GX:=(A x).bind λa=>f a
def q7o:xf->GX:=qfp qaj
theorem qjh:@Eq ((xf)->Us Bool) P12.F q7o:=by delta q7o;rw[<-qev];kernel_rfl
def q7p:=wW
theorem qji:F13=q7p:=rfl
def qbc(A:zpS)(B:Wf):zps->Us (Step zps (Uq⊕Uq)):=λa=>if q (a.2.2 < 3)=g then(ve [a.2.1.1,a.2.1.2.1,a.2.1.2.2] a.2.2).bind λb=>(A (a.1,b)).bind λc=>if c=g then f (Step.done (y b)) else f (Step.next (a.1,a.2.1,Ut (a.2.2+1))) else f (Step.done (M a.1))
def qku(A:zpS)(B:Wf)(x:Zq):Us Uq:=(lpO (qbc A B) (x,(lit [45,62],lit [60,61],lit [61,61]),0)).bind λa=>F (λb=>f b) (λb=>(Zf b 0).bind λc=>(B (lit [123,125,40,41,91,93,44,58,59,61,43,45,38,60],c)).bind λd=>if q (0<=d)=g then(ZJ b 0 1).bind λe=>f e else f (lit [])) a
def qgz:zjq:=qku q7o q7p
theorem qln:@Eq zjq P14.F qgz:=by delta qgz;rw[<-qjh,<-qji];kernel_rfl
def qen(A:Wf)(B:zL)(C:Wf)(D:zi7)(E:zL)(G:Wf)(H:zi7)(I:zjq):zgI->Us (Step zgI zv1):=λa=>if q (a.2.1 < (↑(V a.1):Int))=g then((Zf a.1 a.2.1).bind λb=>(if q (b=32)=g then f (a.1,a.2.1,0,b,g,a.2.2,qn.mk 0 (lit []) 0 0) else f (a.1,a.2.1,0,b,q (b=10),a.2.2,qn.mk 0 (lit []) 0 0)).bind λc=>(if c.2.2.2.2.1=g then f (y (c.1,Ut (c.2.1+1),c.2.2.2.2.2.1)) else if q (c.2.2.2.1=35)=g then(A (c.1,c.2.1)).bind λd=>f (y (c.1,d,c.2.2.2.2.2.1)) else(B c.2.2.2.1).bind λe=>(if e=g then(C (c.1,c.2.1)).bind λi=>(D (c.1,c.2.1,i)).bind λj=>f (c.1,c.2.1,j.2,c.2.2.2.2.2.1,j.1) else(E c.2.2.2.1).bind λl=>(if l=g then(G (c.1,c.2.1)).bind λm=>(H (c.1,c.2.1,m)).bind λn=>f (c.1,c.2.1,n.2,c.2.2.2.2.2.1,n.1) else(ZJ c.1 c.2.1 (↑(V c.1):Int)).bind λo=>(I o).bind λp=>(if q (p=lit [])=g then f (c.1,c.2.1,11,c.2.2.2.2.2.1,qn.mk 4 p 0 c.2.1) else f (c.1,c.2.1,c.2.2.1,c.2.2.2.2.2.1,qn.mk 4 p 0 c.2.1)).bind λr=>f r).bind λm=>f m).bind λi=>f (M i)).bind λd=>F (λe=>f (y e)) (λe=>if q (e.2.2.1≠0)=g then f (M (e.2.1,e.2.2.1)) else(zp 40 e.2.2.2.1 [e.2.2.2.2]).bind λi=>f (y (e.1,Ut (e.2.1+(↑e.2.2.2.2.T_.size:Int)),i))) d).bind λb=>F (λc=>f (Step.next c)) (λc=>f (Step.done (y c))) b else f (Step.done (M (a.1,a.2.2)))
def qgp(A:Wf)(B:zL)(C:Wf)(D:zi7)(E:zL)(G:Wf)(H:zi7)(I:zjq)(x:Zq):Us zqj:=(if q (16384 < (↑x.size:Int))=g then f (0,10,O [] N) else(lpO (qen A B C D E G H I) (x,0,O [] N)).bind λa=>F (λb=>f (b.1,b.2,O [] N)) (λb=>(zp 40 b.2 [qn.mk 0 (lit []) 0 (↑(V b.1):Int)]).bind λc=>f (0,0,c)) a).bind λa=>f a
def qbu:zjb:=qgp qbn qac qdi qdk q8k qcc qfm qgz
theorem qld:@Eq zjb P15.F qbu:=by delta qbu;rw[<-qki,<-qhi,<-ql0,<-qlb,<-qh8,<-qkx,<-qlm,<-qln];kernel_rfl
def qex(x:q8):Us (qn×q8):=(zb x.W_ 0).bind λa=>f (a,x)
def q11:xg:=qex
theorem q2g:@Eq xg P16.F q11:=by kernel_rfl
def qg8(A:xg)(x:Wg):Us zH:=(A x.2).bind λa=>(if q (a.1.k_=2)=g then f (q (a.1.T_=x.1),a.2) else if q (a.1.k_=4)=g then f (q (a.1.T_=x.1),a.2) else f (N,a.2)).bind λb=>f b
def q23:Wg->Us zH:=qg8 q11
theorem q6y:@Eq ((Wg)->Us zH) P17.F q23:=by delta q23;rw[<-q2g];kernel_rfl
def qfq(A:Zv)(x:Wg):Us zH:=(A x).bind λa=>if(!a.1)=g then f (N,a.2) else(Zd a.2.W_ 1 a.2.W_.len).bind λb=>f (g,q8.mk b a.2.D_)
def qx:Wg->Us zH:=qfq q23
theorem q1d:@Eq ((Wg)->Us zH) P18.F qx:=by delta qx;rw[<-q6y];kernel_rfl
def qey(A:xg)(x:Uf):Us zg:=(A x.2).bind λa=>f ((a.1.a_,x.1),a.2)
def q1m:Uf->Us zg:=qey q11
theorem q5x:@Eq ((Int×q8)->Us zg) P19.F q1m:=by delta q1m;rw[<-q2g];kernel_rfl
def qez(A:xg)(B:zan)(x:Uf):Us zgG:=(A x.2).bind λa=>if q (a.1.k_≠x.1)=g then(B (20,a.2)).bind λb=>f (y b) else(Zd a.2.W_ 1 a.2.W_.len).bind λc=>f (M (a.1,q8.mk c a.2.D_))
def q5l:Uf->Us zgG:=qez q11 q1m
theorem qfr:@Eq ((Int×q8)->Us zgG) P20.F q5l:=by delta q5l;rw[<-q2g,<-q5x];kernel_rfl
def qf0(A:zvC)(x:q8):Us Z3:=(A (1,x)).bind λa=>F (λb=>f (y b)) (λb=>f (M ((5,b.1.T_,0,b.1.a_),b.2))) a
def q18:wh:=qf0 q5l
theorem q2r:@Eq wh P21.F q18:=by delta q18;rw[<-qfr];kernel_rfl
def qf1(A:Zv)(B:zan)(x:Wg):Us ya:=(A x).bind λa=>if(!a.1)=g then(B (20,a.2)).bind λb=>f (y b) else f (M a.2)
def q13:Wg->Us ya:=qf1 qx q1m
theorem q22:@Eq ((Wg)->Us ya) P22.F q13:=by delta q13;rw[<-q1d,<-q5x];kernel_rfl
def qf2(A:xg)(B:Zv)(C:Xi)(D:wh)(x:q8):Us zp3:=(A x).bind λa=>(A a.2).bind λb=>(B (lit [105,110,116],b.2)).bind λc=>if c.1=g then f (y (q6.mk 8 a.1.T_ 0 b.1.a_ (O [] N),c.2)) else(B (lit [111,119,110],c.2)).bind λd=>(if d.1=g then f (y (d.2,(0,lit [],0,0),8,a.1.T_,0,b.1.a_)) else(C (lit [38],d.2)).bind λe=>F (λi=>f (M i)) (λi=>(B (lit [109,117,116],i)).bind λj=>(if j.1=g then f (j.2,(0,lit [],0,0),8,lit [38,109,117,116],0,b.1.a_) else f (j.2,(0,lit [],0,0),8,a.1.T_,0,b.1.a_)).bind λ(l:XS)=>f (y l)) e).bind λ(e:q8×(Int×Uq×Int×Int)×Int×Uq×Int×Int⊕zP×q8)=>F (λi=>(D i.1).bind λj=>F (λl=>f (M l)) (λl=>f (y (q6.mk i.2.2.1 i.2.2.2.1 i.2.2.2.2.1 i.2.2.2.2.2 (O [q6.mk l.1.1 l.1.2.1 l.1.2.2.1 l.1.2.2.2 (O [] N)] g),l.2))) j) (λi=>f (M i)) e
def q9z:zi8:=qf2 q11 qx q13 q18
theorem qfs:@Eq zi8 P23.F q9z:=by delta q9z;rw[<-q2g,<-q1d,<-q22,<-q2r];kernel_rfl
def qe9(A:wh)(B:Xi)(C:zi8)(x:q8):Us Zj:=(A x).bind λa=>F (λb=>f (y b)) (λb=>(B (lit [58],b.2)).bind λc=>F (λd=>f (y d)) (λd=>(C d).bind λe=>F (λi=>f (M ((7,b.1.2),i.2,O [kg i.1] g))) (λi=>f (y i)) e) c) a
def q8t:ZQ:=qe9 q18 q13 q9z
theorem qi1:@Eq ZQ P24.F q8t:=by delta q8t;rw[<-q2r,<-q22,<-qfs];kernel_rfl
def q8m(A:ZQ)(B:Zv):yu->Us (Step yu yS):=λa=>(B (lit [44],a.1)).bind λb=>if b.1=g then(A b.2).bind λc=>F (λd=>f (Step.done (y d))) (λd=>(zp 64 a.2 [q6.mk d.1.1 d.1.2.1 d.1.2.2.1 d.1.2.2.2 d.2.2]).bind λe=>f (Step.next (d.2.1,e))) c else f (Step.done (M (b.2,a.2)))
def qc9(A:ZQ)(B:Zv)(x:q8):Us yS:=(A x).bind λa=>F (λb=>f (y b)) (λb=>(lpO (q8m A B) (b.2.1,O [q6.mk b.1.1 b.1.2.1 b.1.2.2.1 b.1.2.2.2 b.2.2] g)).bind λc=>F (λd=>f (y d)) (λd=>f (M d)) c) a
def q9t:YV:=qc9 q8t qx
theorem qgt:@Eq YV P25.F q9t:=by delta q9t;rw[<-qi1,<-q1d];kernel_rfl
def qdz(x:q6×Int):Us (q6×Int):=f (q6.mk x.1.k_ x.1.T_ x.1.n_ x.2 x.1.K_,x.2)
def q81:q6×Int->Us (q6×Int):=qdz
theorem qhj:@Eq ((q6×Int)->Us (q6×Int)) P26.F q81:=by kernel_rfl
def qea(A:Xi)(x:q6×q8):Us ZR:=(A (lit [59],x.2)).bind λa=>F (λb=>f (y b)) (λb=>f (M (kg x.1,b))) a
def q6i:q6×q8->Us ZR:=qea q13
theorem qi2:@Eq ((q6×q8)->Us ZR) P27.F q6i:=by delta q6i;rw[<-q22];kernel_rfl
def qe0(A:zvC)(x:Uf):Us vF:=(A (3,x.2)).bind λa=>F (λb=>f (y b)) (λb=>f (M (Ut (x.1 * b.1.n_),b.2))) a
def q4s:Uf->Us vF:=qe0 q5l
theorem q8d:@Eq ((Int×q8)->Us vF) P28.F q4s:=by delta q4s;rw[<-qfr];kernel_rfl
def qg9(A:wh)(B:Xi)(C:zi1)(x:Uf):Us Z3:=(A x.2).bind λa=>F (λb=>f (y b)) (λb=>(B (lit [91],b.2)).bind λc=>F (λd=>f (y d)) (λd=>(C (1,d)).bind λe=>F (λi=>f (y i)) (λi=>(B (lit [93],i.2)).bind λj=>F (λl=>f (y l)) (λl=>f (M ((x.1,b.1.2.1,i.1,b.1.2.2.2),l))) j) e) c) a
def qaw:Uf->Us Z3:=qg9 q18 q13 q4s
theorem qk4:@Eq ((Int×q8)->Us Z3) P29.F qaw:=by delta qaw;rw[<-q2r,<-q22,<-q8d];kernel_rfl
def qf3(A:Zv)(B:zi1)(x:q6×q8):Us ZR:=(A (lit [43],x.2)).bind λa=>(if a.1=g then(B (1,a.2)).bind λb=>F (λc=>f (y c)) (λc=>f (M (c.2,q6.mk x.1.k_ x.1.T_ c.1 x.1.a_ x.1.K_,0,lit [],0,0))) b else(A (lit [45],a.2)).bind λc=>(if c.1=g then(B (-1,c.2)).bind λd=>F (λe=>f (y e)) (λe=>f (M (e.2,q6.mk x.1.k_ x.1.T_ e.1 x.1.a_ x.1.K_,0,lit [],0,0))) d else f (M (c.2,kg x.1,0,lit [],0,0))).bind λ(d:zvs)=>F (λe=>f (y e)) (λe=>f (M (e.1,kg e.2.1,e.2.2))) d).bind λ(b:zvs)=>F (λc=>f (y c)) (λc=>f (M (kg c.2.1,c.1))) b
def q5m:q6×q8->Us ZR:=qf3 qx q4s
theorem qft:@Eq ((q6×q8)->Us ZR) P30.F q5m:=by delta q5m;rw[<-q1d,<-q8d];kernel_rfl
def qf4(A:xg)(B:zi1)(C:Zv)(D:wh)(E:zpG)(x:q8):Us ZR:=(A x).bind λa=>(A a.2).bind λb=>(if q (b.1.k_=3)=g then(B (1,b.2)).bind λc=>F (λd=>f (y d)) (λd=>f (M (y (d.2,5,lit [],d.1,a.1.a_)))) c else(C (lit [45],b.2)).bind λd=>if d.1=g then(B (-1,d.2)).bind λe=>F (λi=>f (y i)) (λi=>f (M (y (i.2,5,lit [],i.1,a.1.a_)))) e else f (M (M (d.2,0,lit [],0,0)))).bind λ(c:zP×q8⊕q8×Int×Uq×Int×Int⊕q8×Int×Uq×Int×Int)=>F (λd=>f (y d)) (λd=>F (λe=>f (M (q6.mk e.2.1 e.2.2.1 e.2.2.2.1 e.2.2.2.2 (O [] N),e.1))) (λe=>((D e.1).bind λi=>F (λj=>f (y j)) (λj=>(E (q6.mk j.1.1 j.1.2.1 j.1.2.2.1 j.1.2.2.2 (O [] N),j.2)).bind λl=>F (λm=>f (y m)) (λm=>f (M (m.2,kg m.1))) l) i).bind λ(i:zjt)=>F (λj=>f (y j)) (λj=>f (M (kg j.2,j.1))) i) d) c
def q2d:YW:=qf4 q11 q4s qx q18 q5m
theorem q76:@Eq YW P31.F q2d:=by delta q2d;rw[<-q2g,<-q8d,<-q1d,<-q2r,<-qft];kernel_rfl
def q72(A:Zv)(B:zan):zpD->Us (Step zpD (Wg⊕q8)):=λa=>if q (a.2.1 < 3)=g then(ve [a.1.1,a.1.2.1,a.1.2.2] a.2.1).bind λb=>(A (b,a.2.2)).bind λc=>if c.1=g then f (Step.done (y (b,c.2))) else f (Step.next (a.1,Ut (a.2.1+1),c.2)) else f (Step.done (M a.2.2))
def qfu(A:Zv)(B:zan)(x:q8):Us zvX:=(lpO (q72 A B) ((lit [60],lit [60,61],lit [61,61]),0,x)).bind λa=>F (λb=>f (y b)) (λb=>(B (20,b)).bind λc=>f (M c)) a
def qd4:zpA:=qfu qx q1m
theorem qjj:@Eq zpA P32.F qd4:=by delta qd4;rw[<-q1d,<-q5x];kernel_rfl
def qf5(A:YW)(B:zpA)(x:q8):Us Zj:=(A x).bind λa=>F (λb=>f (y b)) (λb=>(B b.2).bind λc=>F (λd=>(A d.2).bind λe=>F (λi=>f (y i)) (λi=>f (M ((4,d.1,0,b.1.a_),i.2,O [kg b.1,kg i.1] g))) e) (λd=>f (y d)) c) a
def q4l:ZQ:=qf5 q2d qd4
theorem qfv:@Eq ZQ P33.F q4l:=by delta q4l;rw[<-q76,<-qjj];kernel_rfl
def q9q(A:YW)(B:Zv):yu->Us (Step yu yS):=λa=>(B (lit [44],a.1)).bind λb=>if b.1=g then(A b.2).bind λc=>F (λd=>f (Step.done (y d))) (λd=>(zp 64 a.2 [kg d.1]).bind λe=>f (Step.next (d.2,e))) c else f (Step.done (M (b.2,a.2)))
def qd0(A:YW)(B:Zv)(x:q8):Us yS:=(A x).bind λa=>F (λb=>f (y b)) (λb=>(lpO (q9q A B) (b.2,O [kg b.1] g)).bind λc=>F (λd=>f (y d)) (λd=>f (M d)) c) a
def q9x:YV:=qd0 q2d qx
theorem qh0:@Eq YV P34.F q9x:=by delta q9x;rw[<-q76,<-q1d];kernel_rfl
def qf6(A:Xi)(B:Zv)(C:YV)(x:q8):Us yS:=(A (lit [40],x)).bind λa=>F (λb=>f (y b)) (λb=>(B (lit [41],b)).bind λc=>if c.1=g then f (M (c.2,O [] N)) else(C c.2).bind λd=>F (λe=>f (y e)) (λe=>(A (lit [41],e.1)).bind λi=>F (λj=>f (y j)) (λj=>f (M (j,e.2))) i) d) a
def q5n:YV:=qf6 q13 qx q9x
theorem qcs:@Eq YV P35.F q5n:=by delta q5n;rw[<-q22,<-q1d,<-qh0];kernel_rfl
def qf7(A:xg)(B:Zv)(C:zi1)(D:wh)(E:YW)(G:Zv)(H:YV)(I:Xi)(J:zpG)(x:q8):Us ZR:=(A x).bind λa=>(B (lit [110,101,119],a.2)).bind λb=>(if b.1=g then(C (1,b.2)).bind λc=>F (λd=>f (y d)) (λd=>f (M (y (d.2,q6.mk 23 (lit []) d.1 a.1.a_ (O [] N))))) c else(B (lit [97,114,114,97,121],b.2)).bind λd=>(if d.1=g then(D d.2).bind λe=>F (λi=>f (y i)) (λi=>f (M (y (i.2,q6.mk 24 i.1.2.1 0 a.1.a_ (O [] N))))) e else(B (lit [38],d.2)).bind λi=>(if i.1=g then(B (lit [109,117,116],i.2)).bind λj=>(if j.1=g then f (j.2,(0,lit [],0,0),27,lit [],0,a.1.a_) else f (j.2,(0,lit [],0,0),26,lit [],0,a.1.a_)).bind λ(l:XS)=>(D l.1).bind λm=>F (λn=>f (y n)) (λn=>f (M (y (n.2,q6.mk l.2.2.1 n.1.2.1 l.2.2.2.2.1 l.2.2.2.2.2 (O [] N))))) m else(A i.2).bind λn=>if q (n.1.k_≠1)=g then(E n.2).bind λo=>F (λp=>f (y p)) (λp=>f (M (y (p.2,kg p.1)))) o else f (M (M (n.2,(0,lit [],0,0),0,lit [],0,a.1.a_)))).bind λ(j:zuA)=>F (λl=>f (y l)) (λl=>F (λm=>f (M (y (m.1,kg m.2)))) (λm=>f (M (M m))) l) j).bind λ(e:zuA)=>F (λi=>f (y i)) (λi=>F (λj=>f (M (y (j.1,kg j.2)))) (λj=>f (M (M j))) i) e).bind λ(c:zuA)=>F (λd=>f (y d)) (λd=>F (λe=>f (M (kg e.2,e.1))) (λe=>(D e.1).bind λi=>F (λj=>f (y j)) (λj=>(G (lit [40],j.2)).bind λl=>(if l.1=g then(H l.2).bind λm=>F (λn=>f (y n)) (λn=>f (M (y (n.1,(28,j.1.2),n.2)))) m else(B (lit [91],l.2)).bind λn=>(if n.1=g then(E n.2).bind λo=>F (λp=>f (y p)) (λp=>(I (lit [93],p.2)).bind λr=>F (λs=>f (y s)) (λs=>f (M (y (s,(25,j.1.2),O [kg p.1] g)))) r) o else f (M (M (n.2,e.2.1,j.1)))).bind λ(o:zum)=>F (λp=>f (y p)) (λp=>F (λr=>f (M (y r))) (λr=>f (M (M r))) p) o).bind λ(m:zum)=>F (λn=>f (y n)) (λn=>F (λo=>f (M (q6.mk o.2.1.1 o.2.1.2.1 o.2.1.2.2.1 o.2.1.2.2.2 o.2.2,o.1))) (λo=>(yK (((G (lit [43],o.1)).bind λp=>if p.1=g then(zb p.2.W_ 1).bind λr=>f (lit [43],21,q (r.k_=1),p.2,o.2) else f (lit [43],21,N,p.2,o.2)).bind λ(p:zpf)=>(if p.2.2.1=g then(I (p.1,p.2.2.2.1)).bind λr=>F (λs=>f (y (s.1,s.2,p.2.2.2.2))) (λs=>(D s).bind λt=>F (λu=>f (y (u.1,u.2,p.2.2.2.2))) (λu=>f (M (y (u.2,(p.2.1,lit [],0,p.2.2.2.2.2.2.2.2),p.2.2.2.2.2,O [q6.mk p.2.2.2.2.2.1 p.2.2.2.2.2.2.1 p.2.2.2.2.2.2.2.1 p.2.2.2.2.2.2.2.2 (O [] N),q6.mk u.1.1 u.1.2.1 u.1.2.2.1 u.1.2.2.2 (O [] N)] g)))) t) r else f (M (M p.2.2.2))).bind λ(r:tA0)=>F (λs=>f (y (s.1,s.2.1))) (λs=>F (λt=>f (M (y (t.1,t.2.1,t.2.2.2)))) (λt=>((G (lit [45],t.1)).bind λu=>if u.1=g then(zb u.2.W_ 1).bind λv=>f (lit [45],22,q (v.k_=1),u.2,t.2) else f (lit [45],22,N,u.2,t.2)).bind λ(u:zpf)=>(if u.2.2.1=g then(I (u.1,u.2.2.2.1)).bind λv=>F (λw=>f (y (w.1,w.2,u.2.2.2.2))) (λw=>(D w).bind λz=>F (λK=>f (y (K.1,K.2,u.2.2.2.2))) (λK=>f (M (y (K.2,(u.2.1,lit [],0,u.2.2.2.2.2.2.2.2),u.2.2.2.2.2,O [q6.mk u.2.2.2.2.2.1 u.2.2.2.2.2.2.1 u.2.2.2.2.2.2.2.1 u.2.2.2.2.2.2.2.2 (O [] N),q6.mk K.1.1 K.1.2.1 K.1.2.2.1 K.1.2.2.2 (O [] N)] g)))) z) v else f (M (M u.2.2.2))).bind λ(v:tA0)=>F (λw=>f (y (w.1,w.2.1))) (λw=>F (λz=>f (M (y (z.1,z.2.1,z.2.2.2)))) (λz=>f (M (M z))) w) v) s) r) (((G (lit [45],o.1)).bind λp=>if p.1=g then(zb p.2.W_ 1).bind λr=>f (lit [45],22,q (r.k_=1),p.2,o.2) else f (lit [45],22,N,p.2,o.2)).bind λ(p:zpf)=>(if p.2.2.1=g then(I (p.1,p.2.2.2.1)).bind λr=>F (λs=>f (y (s.1,s.2,p.2.2.2.2))) (λs=>(D s).bind λt=>F (λu=>f (y (u.1,u.2,p.2.2.2.2))) (λu=>f (M (y (u.2,(p.2.1,lit [],0,p.2.2.2.2.2.2.2.2),p.2.2.2.2.2,O [q6.mk p.2.2.2.2.2.1 p.2.2.2.2.2.2.1 p.2.2.2.2.2.2.2.1 p.2.2.2.2.2.2.2.2 (O [] N),q6.mk u.1.1 u.1.2.1 u.1.2.2.1 u.1.2.2.2 (O [] N)] g)))) t) r else f (M (M p.2.2.2))).bind λ(r:tA0)=>F (λs=>f (y (s.1,s.2.1))) (λs=>F (λt=>f (M (y (t.1,t.2.1,t.2.2.2)))) (λt=>((G (lit [43],t.1)).bind λu=>if u.1=g then(zb u.2.W_ 1).bind λv=>f (lit [43],21,q (v.k_=1),u.2,t.2) else f (lit [43],21,N,u.2,t.2)).bind λ(u:zpf)=>(if u.2.2.1=g then(I (u.1,u.2.2.2.1)).bind λv=>F (λw=>f (y (w.1,w.2,u.2.2.2.2))) (λw=>(D w).bind λz=>F (λK=>f (y (K.1,K.2,u.2.2.2.2))) (λK=>f (M (y (K.2,(u.2.1,lit [],0,u.2.2.2.2.2.2.2.2),u.2.2.2.2.2,O [q6.mk u.2.2.2.2.2.1 u.2.2.2.2.2.2.1 u.2.2.2.2.2.2.2.1 u.2.2.2.2.2.2.2.2 (O [] N),q6.mk K.1.1 K.1.2.1 K.1.2.2.1 K.1.2.2.2 (O [] N)] g)))) z) v else f (M (M u.2.2.2))).bind λ(v:tA0)=>F (λw=>f (y (w.1,w.2.1))) (λw=>F (λz=>f (M (y (z.1,z.2.1,z.2.2.2)))) (λz=>f (M (M z))) w) v) s) r)).bind λp=>F (λr=>f (y r)) (λr=>F (λs=>f (M (q6.mk s.2.1.1 s.2.1.2.1 s.2.1.2.2.1 s.2.1.2.2.2 s.2.2,s.1))) (λs=>(J (q6.mk s.2.2.1 s.2.2.2.1 s.2.2.2.2.1 s.2.2.2.2.2 (O [] N),s.1)).bind λt=>F (λu=>f (y u)) (λu=>f (M (kg u.1,u.2))) t) r) p) n) m) i) d) c
def qcf:YW:=qf7 q11 qx q4s q18 q2d q23 q5n q13 q5m
theorem qit:@Eq YW F36 qcf:=by delta qcf;rw[<-q2g,<-q1d,<-q8d,<-q2r,<-q76,<-q6y,<-qcs,<-q22,<-qft];kernel_rfl
def qeb(A:Zv)(B:YV)(C:Zv)(D:YW)(E:Xi)(G:YW)(x:q6×q8):Us Zj:=(A (lit [40],x.2)).bind λa=>(if a.1=g then(B a.2).bind λb=>F (λc=>f (y c)) (λc=>f (M (y (c.1,(20,lit [],0,x.1.a_),O [q6.mk 28 x.1.T_ x.1.n_ x.1.a_ c.2] g)))) b else(C (lit [91],a.2)).bind λc=>(if c.1=g then(D c.2).bind λd=>F (λe=>f (y e)) (λe=>(E (lit [93],e.2)).bind λi=>F (λj=>f (y j)) (λj=>(E (lit [61],j)).bind λl=>F (λm=>f (y m)) (λm=>(D m).bind λn=>F (λo=>f (y o)) (λo=>f (M (y (o.2,(11,x.1.T_,x.1.n_,x.1.a_),O ([kg e.1]++[kg o.1]) (g || ![kg o.1].isEmpty))))) n) l) i) d else f (M (M (c.2,kg x.1,0,lit [],0,0)))).bind λ(d:zzL)=>F (λe=>f (y e)) (λe=>F (λi=>f (M (y i))) (λi=>f (M (M (i.1,kg i.2.1,i.2.2)))) e) d).bind λ(b:zzL)=>F (λc=>f (y c)) (λc=>F (λd=>f (M (d.2.1,d.1,d.2.2))) (λd=>(E (lit [61],d.1)).bind λe=>F (λi=>f (y i)) (λi=>(G i).bind λj=>F (λl=>f (y l)) (λl=>f (M ((10,d.2.1.T_,d.2.1.n_,d.2.1.a_),l.2,O [kg l.1] g))) j) e) c) b
def q8u:q6×q8->Us Zj:=qeb q23 q5n qx q2d q13 qcf
theorem qi3:@Eq ((q6×q8)->Us Zj) P37.F q8u:=by delta q8u;rw[<-q6y,<-qcs,<-q1d,<-q76,<-q22,<-qit];kernel_rfl
def q7m(A:ZQ)(B:ZQ)(x:zeq):Us Zj:=(A x.2.2).bind λa=>F (λb=>f (y b)) (λb=>(B b.2.1).bind λc=>F (λd=>f (y d)) (λd=>(zp 64 b.2.2 [q6.mk d.1.1 d.1.2.1 d.1.2.2.1 d.1.2.2.2 d.2.2]).bind λe=>f (M ((x.1,b.1.2.1,b.1.2.2.1,x.2.1),d.2.1,e))) c) a
def q3v(h:ZQ):zeq->Us Zj:=q7m q4l h
theorem qe1(h:ZQ):@Eq ((zeq)->Us Zj) (zn6 h) (q3v h):=by delta q3v;rw[<-qfv];kernel_rfl
def q9l(A:xg)(B:Zv)(C:wh)(D:q6×Int->Us (q6×Int))(E:zpG)(G:Uf->Us Z3)(H:zeq->Us Zj)(I:ZQ)(J:Zv)(K:YW)(L:YV)(P:q6×q8->Us Zj)(x:q8):Us ZR:=(A x).bind λa=>(B (lit [102,114,101,101],a.2)).bind λb=>(if b.1=g then(C b.2).bind λc=>F (λd=>f (y d)) (λd=>(D (q6.mk 12 d.1.2.1 d.1.2.2.1 d.1.2.2.2 (O [] N),a.1.a_)).bind λe=>(E (kg e.1,d.2)).bind λi=>F (λj=>f (y j)) (λj=>f (M (y (j.2,kg j.1)))) i) c else(B (lit [108,111,99,107],b.2)).bind λd=>(if d.1=g then((G (13,d.2)).bind λe=>F (λi=>f (y i)) (λi=>(D (q6.mk i.1.1 i.1.2.1 i.1.2.2.1 i.1.2.2.2 (O [] N),a.1.a_)).bind λj=>(E (kg j.1,i.2)).bind λl=>F (λm=>f (y m)) (λm=>f (M (m.2,kg m.1))) l) e).bind λ(e:zjt)=>F (λi=>f (y i)) (λi=>f (M (y (i.1,kg i.2)))) e else(B (lit [117,110,108,111,99,107],d.2)).bind λi=>(if i.1=g then((G (14,i.2)).bind λj=>F (λl=>f (y l)) (λl=>(D (q6.mk l.1.1 l.1.2.1 l.1.2.2.1 l.1.2.2.2 (O [] N),a.1.a_)).bind λm=>(E (kg m.1,l.2)).bind λn=>F (λo=>f (y o)) (λo=>f (M (o.2,kg o.1))) n) j).bind λ(j:zjt)=>F (λl=>f (y l)) (λl=>f (M (y (l.1,kg l.2)))) j else(B (lit [105,102],i.2)).bind λl=>(if l.1=g then(H (15,a.1.a_,l.2)).bind λm=>F (λn=>f (y n)) (λn=>(B (lit [101,108,115,101],n.2.1)).bind λo=>(if o.1=g then(I o.2).bind λp=>F (λr=>f (y r)) (λr=>(zp 64 n.2.2 [q6.mk r.1.1 r.1.2.1 r.1.2.2.1 r.1.2.2.2 r.2.2]).bind λs=>f (M (r.2.1,(0,lit [],0,0),n.1,s))) p else(zp 64 n.2.2 [q6.mk 9 (lit []) 0 a.1.a_ (O [] N)]).bind λr=>f (M (o.2,(0,lit [],0,0),n.1,r))).bind λ(p:zce)=>F (λr=>f (y r)) (λr=>f (M (y (r.1,q6.mk r.2.2.1.1 r.2.2.1.2.1 r.2.2.1.2.2.1 r.2.2.1.2.2.2 r.2.2.2)))) p) m else(B (lit [119,104,105,108,101],l.2)).bind λn=>(if n.1=g then(H (16,a.1.a_,n.2)).bind λo=>F (λp=>f (y p)) (λp=>f (M (y (p.2.1,q6.mk p.1.1 p.1.2.1 p.1.2.2.1 p.1.2.2.2 p.2.2)))) o else(B (lit [114,101,116,117,114,110],n.2)).bind λp=>(if p.1=g then(J (lit [59],p.2)).bind λr=>(if(!r.1)=g then(K r.2).bind λs=>F (λt=>f (y t)) (λt=>f (M (t.2,(0,lit [],0,0),(17,lit [],0,a.1.a_),O [kg t.1] g))) s else f (M (r.2,(0,lit [],0,0),(17,lit [],0,a.1.a_),O [] N))).bind λ(s:zce)=>F (λt=>f (y t)) (λt=>(E (q6.mk t.2.2.1.1 t.2.2.1.2.1 t.2.2.1.2.2.1 t.2.2.1.2.2.2 t.2.2.2,t.1)).bind λu=>F (λv=>f (y v)) (λv=>f (M (y (v.2,kg v.1)))) u) s else(B (lit [97,98,111,114,116],p.2)).bind λt=>(if t.1=g then(E (q6.mk 18 (lit []) 0 a.1.a_ (O [] N),t.2)).bind λu=>F (λv=>f (y v)) (λv=>f (M (y (v.2,kg v.1)))) u else(B (lit [102,111,114,107],t.2)).bind λv=>(if v.1=g then(C v.2).bind λw=>F (λz=>f (y z)) (λz=>(L z.2).bind λQ=>F (λR=>f (y R)) (λR=>(D (q6.mk 19 z.1.2.1 z.1.2.2.1 z.1.2.2.2 R.2,a.1.a_)).bind λS=>(E (kg S.1,R.1)).bind λT=>F (λU=>f (y U)) (λU=>f (M (y (U.2,kg U.1)))) T) Q) w else f (M (M (v.2,0,lit [],0,0)))).bind λ(w:zah)=>F (λz=>f (y z)) (λz=>F (λQ=>f (M (y (Q.1,kg Q.2)))) (λQ=>f (M (M Q))) z) w).bind λ(u:zah)=>F (λv=>f (y v)) (λv=>F (λw=>f (M (y (w.1,kg w.2)))) (λw=>f (M (M w))) v) u).bind λ(r:zah)=>F (λs=>f (y s)) (λs=>F (λt=>f (M (y (t.1,kg t.2)))) (λt=>f (M (M t))) s) r).bind λ(o:zah)=>F (λp=>f (y p)) (λp=>F (λr=>f (M (y (r.1,kg r.2)))) (λr=>f (M (M r))) p) o).bind λ(m:zah)=>F (λn=>f (y n)) (λn=>F (λo=>f (M (y (o.1,kg o.2)))) (λo=>f (M (M o))) n) m).bind λ(j:zah)=>F (λl=>f (y l)) (λl=>F (λm=>f (M (y (m.1,kg m.2)))) (λm=>f (M (M m))) l) j).bind λ(e:zah)=>F (λi=>f (y i)) (λi=>F (λj=>f (M (y (j.1,kg j.2)))) (λj=>f (M (M j))) i) e).bind λ(c:zah)=>F (λd=>f (y d)) (λd=>F (λe=>f (M (kg e.2,e.1))) (λe=>((C e.1).bind λi=>F (λj=>f (y j)) (λj=>(P (q6.mk j.1.1 j.1.2.1 j.1.2.2.1 j.1.2.2.2 (O [] N),j.2)).bind λl=>F (λm=>f (y m)) (λm=>(E (q6.mk m.1.1 m.1.2.1 m.1.2.2.1 m.1.2.2.2 m.2.2,m.2.1)).bind λn=>F (λo=>f (y o)) (λo=>f (M (o.2,kg o.1))) n) l) i).bind λ(i:zjt)=>F (λj=>f (y j)) (λj=>f (M (kg j.2,j.1))) i) d) c
def q3o(h:ZQ):YW:=q9l q11 qx q18 q81 q6i qaw (q3v h) h q23 q2d q5n q8u
theorem qf8(h:ZQ):@Eq YW (zn7 h) (q3o h):=by delta q3o;rw[<-q2g,<-q1d,<-q2r,<-qhj,<-qi2,<-qk4,<-qe1 h,<-q6y,<-q76,<-qcs,<-qi3];kernel_rfl
def qe7(A:xg)(B:Zv)(C:zan)(D:Xi)(E:Zv)(G:YW):Y9->Us (Step Y9 zce):=λa=>(E (lit [125],a.1)).bind λb=>if(!b.1)=g then(G b.2).bind λc=>F (λd=>f (Step.done (y d))) (λd=>(zp 64 a.2.2.2 [kg d.1]).bind λe=>f (Step.next (d.2,a.2.1,a.2.2.1,e))) c else f (Step.done (M (b.2,a.2)))
def q8e(A:xg)(B:Zv)(C:zan)(D:Xi)(E:Zv)(G:YW)(x:q8):Us Zj:=(A x).bind λa=>((B (lit [123],a.2)).bind λb=>if b.1=g then f (q (8<=b.2.D_),b.2,(0,lit [],0,0),9,lit [],0,a.1.a_) else f (N,b.2,(0,lit [],0,0),9,lit [],0,a.1.a_)).bind λb=>if b.1=g then(C (21,b.2.1)).bind λc=>f (y c) else(D (lit [123],b.2.1)).bind λd=>F (λe=>f (y e)) (λe=>(lpO (qe7 A B C D E G) (q8.mk e.W_ (Ut (e.D_+1)),b.2.2.1,b.2.2.2,O [] N)).bind λi=>F (λj=>f (y j)) (λj=>f (M (j.2.2.1,q8.mk j.1.W_ (Ut (j.1.D_ - 1)),j.2.2.2))) i) d
def q8f(h:ZQ):ZQ:=q8e q11 q23 q1m q13 qx (q3o h)
theorem qhk(h:ZQ):@Eq ZQ (zn8 h) (q8f h):=by delta q8f;rw[<-q2g,<-q6y,<-q5x,<-q22,<-q1d,<-qf8 h];kernel_rfl
def q3b:Nat->q8->Us Zj
  |0=>λ_=>W
  |k+1=>q8f (q3b k)
theorem q8g:∀k,@Eq ZQ (zkQ k) (q3b k)
  |0=>rfl
  |k+1=>(qhk (zkQ k)).trans (congrArg q8f (q8g k))
def qbw:ZQ:=q3b 100000
theorem qi4:@Eq ZQ F40 qbw:=q8g 100000
def qga(A:wh)(B:Xi)(C:Zv)(D:YV)(E:Zv)(G:zan)(H:zi8)(I:xg)(J:ZQ)(x:Uf):Us Zj:=(A x.2).bind λa=>F (λb=>f (y b)) (λb=>(B (lit [40],b.2)).bind λc=>F (λd=>f (y d)) (λd=>(C (lit [41],d)).bind λe=>(if(!e.1)=g then(D e.2).bind λi=>F (λj=>f (y j)) (λj=>f (M (j.1,(0,lit [],0,0),(6,b.1.2.1,b.1.2.2.1,x.1),j.2))) i else f (M (e.2,(0,lit [],0,0),(6,b.1.2.1,b.1.2.2.1,x.1),O [] N))).bind λ(i:zce)=>F (λj=>f (y j)) (λj=>(B (lit [41],j.1)).bind λl=>F (λm=>f (y m)) (λm=>(E (lit [45,62],m)).bind λn=>(if n.1=g then(C (lit [38],n.2)).bind λo=>if o.1=g then(G (20,o.2)).bind λp=>f (y p) else(H o.2).bind λr=>F (λs=>f (M (s.2,j.2.1,j.2.2.1,kg s.1,j.2.2.2))) (λs=>f (y s)) r else(I n.2).bind λs=>f (M (s.2,j.2.1,j.2.2.1,q6.mk 8 (lit []) 0 s.1.a_ (O [] N),j.2.2.2))).bind λ(o:zP×q8⊕q8×(Int×Uq×Int×Int)×(Int×Uq×Int×Int)×q6×Sl q6)=>F (λp=>f (y p)) (λp=>(J p.1).bind λr=>F (λs=>f (y s)) (λs=>(zp 64 p.2.2.2.2 [kg p.2.2.2.1,q6.mk s.1.1 s.1.2.1 s.1.2.2.1 s.1.2.2.2 s.2.2]).bind λt=>f (M (p.2.2.1,s.2.1,t))) r) o) l) i) c) a
def qax:Uf->Us Zj:=qga q18 q13 q23 q9t qx q1m q9z q11 qbw
theorem qk5:@Eq ((Int×q8)->Us Zj) P41.F qax:=by delta qax;rw[<-q2r,<-q22,<-q6y,<-qgt,<-q1d,<-q5x,<-qfs,<-q2g,<-qi4];kernel_rfl
def qf9(A:xg)(B:Zv)(C:wh)(D:zan)(x:q8):Us zvl:=(A x).bind λa=>(A a.2).bind λb=>(B (lit [111,119,110],b.2)).bind λc=>(if c.1=g then f (c.1,c.2,(0,lit [],0,0),2,a.1.T_,0,b.1.a_) else(B (lit [99,101,108,108],c.2)).bind λd=>f (d.1,d.2,(0,lit [],0,0),2,a.1.T_,0,b.1.a_)).bind λ(d:ziX)=>(if d.1=g then f (y (d.2.1,d.2.2.1,d.2.2.2,O [] N)) else(B (lit [99,111,117,110,116,101,100],d.2.1)).bind λe=>(if e.1=g then f (e.1,e.2,d.2.2) else(B (lit [108,111,99,107],e.2)).bind λi=>(if i.1=g then f (i.1,i.2,d.2.2) else(B (lit [103,117,97,114,100],i.2)).bind λj=>f (j.1,j.2,d.2.2)).bind λ(j:ziX)=>f j).bind λ(i:ziX)=>(if i.1=g then(C i.2.1).bind λj=>F (λl=>f (y l)) (λl=>f (M (l.2,i.2.2.1,i.2.2.2,O [q6.mk l.1.1 l.1.2.1 l.1.2.2.1 l.1.2.2.2 (O [] N)] g))) j else(D (20,i.2.1)).bind λl=>f (y l)).bind λ(j:zce)=>F (λl=>f (M l)) (λl=>f (y l)) j).bind λ(e:q8×(Int×Uq×Int×Int)×(Int×Uq×Int×Int)×Sl q6⊕zP×q8)=>F (λi=>f (y (i.2.2.1,i.1,i.2.2.2))) (λi=>f (M i)) e
def qce:zpi:=qf9 q11 qx q18 q1m
theorem qiv:@Eq zpi P42.F qce:=by delta qce;rw[<-q2g,<-q1d,<-q2r,<-q5x];kernel_rfl
def qec(A:wh)(B:Zv)(C:Xi)(x:q8):Us Zj:=(A x).bind λa=>F (λb=>f (y b)) (λb=>(B (lit [91],b.2)).bind λc=>(if c.1=g then(A c.2).bind λd=>F (λe=>f (y e)) (λe=>(C (lit [93],e.2)).bind λi=>F (λj=>f (y j)) (λj=>f (M (j,(0,lit [],0,0),(3,b.1.2),O [q6.mk e.1.1 e.1.2.1 e.1.2.2.1 e.1.2.2.2 (O [] N)] g))) i) d else f (M (c.2,(0,lit [],0,0),(3,b.1.2),O [] N))).bind λ(d:zce)=>F (λe=>f (y e)) (λe=>f (M (e.2.2.1,e.1,e.2.2.2))) d) a
def q8s:ZQ:=qec q18 qx q13
theorem qi5:@Eq ZQ P43.F q8s:=by delta q8s;rw[<-q2r,<-q1d,<-q22];kernel_rfl
def q8l(A:ZQ)(B:Zv):yu->Us (Step yu yS):=λa=>(B (lit [44],a.1)).bind λb=>if b.1=g then(A b.2).bind λc=>F (λd=>f (Step.done (y d))) (λd=>(zp 64 a.2 [q6.mk d.1.1 d.1.2.1 d.1.2.2.1 d.1.2.2.2 d.2.2]).bind λe=>f (Step.next (d.2.1,e))) c else f (Step.done (M (b.2,a.2)))
def qca(A:ZQ)(B:Zv)(x:q8):Us yS:=(A x).bind λa=>F (λb=>f (y b)) (λb=>(lpO (q8l A B) (b.2.1,O [q6.mk b.1.1 b.1.2.1 b.1.2.2.1 b.1.2.2.2 b.2.2] g)).bind λc=>F (λd=>f (y d)) (λd=>f (M d)) c) a
def q9s:YV:=qca q8s qx
theorem qgu:@Eq YV P44.F q9s:=by delta q9s;rw[<-qi5,<-q1d];kernel_rfl
def q9r(A:ZQ)(B:Zv):yu->Us (Step yu yS):=λa=>(B (lit [44],a.1)).bind λb=>if b.1=g then(A b.2).bind λc=>F (λd=>f (Step.done (y d))) (λd=>(zp 64 a.2 [q6.mk d.1.1 d.1.2.1 d.1.2.2.1 d.1.2.2.2 d.2.2]).bind λe=>f (Step.next (d.2.1,e))) c else f (Step.done (M (b.2,a.2)))
def qd1(A:ZQ)(B:Zv)(x:q8):Us yS:=(A x).bind λa=>F (λb=>f (y b)) (λb=>(lpO (q9r A B) (b.2.1,O [q6.mk b.1.1 b.1.2.1 b.1.2.2.1 b.1.2.2.2 b.2.2] g)).bind λc=>F (λd=>f (y d)) (λd=>f (M d)) c) a
def q9y:YV:=qd1 q4l qx
theorem qh1:@Eq YV P45.F q9y:=by delta q9y;rw[<-qfv,<-q1d];kernel_rfl
def qfw(A:wh)(B:zpi)(C:Zv)(D:YV)(E:Xi)(G:YV)(x:Uf):Us Zj:=(A x.2).bind λa=>F (λb=>f (y b)) (λb=>(B b.2).bind λc=>F (λd=>(C (lit [123],d.2.1)).bind λe=>(if e.1=g then(D e.2).bind λi=>F (λj=>f (y j)) (λj=>(zp 64 (O [q6.mk d.1.1 d.1.2.1 d.1.2.2.1 d.1.2.2.2 d.2.2] g) j.2.xs).bind λl=>(E (lit [125],j.1)).bind λm=>F (λn=>f (y n)) (λn=>f (M (n,(0,lit [],0,0),(1,b.1.2.1,b.1.2.2.1,x.1),l))) m) i else f (M (e.2,(0,lit [],0,0),(1,b.1.2.1,b.1.2.2.1,x.1),O [q6.mk d.1.1 d.1.2.1 d.1.2.2.1 d.1.2.2.2 d.2.2] g))).bind λ(i:zce)=>F (λj=>f (y j)) (λj=>(C (lit [119,104,101,114,101],j.1)).bind λl=>(if l.1=g then(G l.2).bind λm=>F (λn=>f (y n)) (λn=>(zp 64 j.2.2.2 n.2.xs).bind λo=>f (M (n.1,j.2.1,j.2.2.1,o))) m else f (M (l.2,j.2))).bind λ(m:zce)=>F (λn=>f (y n)) (λn=>(E (lit [59],n.1)).bind λo=>F (λp=>f (y p)) (λp=>f (M (n.2.2.1,p,n.2.2.2))) o) m) i) (λd=>f (y d)) c) a
def qak:Uf->Us Zj:=qfw q18 qce qx q9s q13 q9y
theorem qjk:@Eq ((Int×q8)->Us Zj) P46.F qak:=by delta qak;rw[<-q2r,<-qiv,<-q1d,<-qgu,<-q22,<-qh1];kernel_rfl
def qbx(A:XV):zp6->Us (Step zp6 Int):=λa=>if q (a.2.2.2 < a.2.2.1)=g then(zb a.2.1 a.2.2.2).bind λb=>(A (kg b)).bind λc=>f (Step.next (Ut (a.1+c),a.2.1,a.2.2.1,Ut (a.2.2.2+1))) else f (Step.done a.1)
def qdx(A:XV)(x:q6):GQ:=(lpO (qbx A) (1,x.K_,x.K_.len,0)).bind λa=>f a
def qdy(h:XV):XV:=qdx h
theorem ql3(h:XV):@Eq XV (zn9 h) (qdy h):=by kernel_rfl
def q5o:Nat->q6->Us Int
  |0=>λ_=>W
  |k+1=>qdy (q5o k)
theorem qi6:∀k,@Eq XV (zkR k) (q5o k)
  |0=>rfl
  |k+1=>(ql3 (zkR k)).trans (congrArg qdy (qi6 k))
def qeo:XV:=q5o 100000
theorem ql4:@Eq XV F47 qeo:=qi6 100000
def qfa(x:zag):Us xa:=f ((0,lit [],0,0),x.1.1,x.1.2,x.2.2.2.2)
def qcg:zag->Us xa:=qfa
theorem qiw:@Eq ((zag)->Us xa) F48 qcg:=by kernel_rfl
def qe2(x:xa):Us xa:=f x
def qbd:xa->Us xa:=qe2
theorem qhm:@Eq ((xa)->Us xa) F49 qbd:=by kernel_rfl
def q60(A:zjb)(B:xg)(C:Zv)(D:ziT)(E:Xi)(G:ziT)(H:zzD)(I:XV)(J:zzH):zd3->Us (Step zd3 zzF):=λa=>(B a.2.2.2.1).bind λb=>if q (b.1.k_≠0)=g then((B b.2).bind λc=>(C (lit [102,110],c.2)).bind λd=>if d.1=g then((D (c.1.a_,d.2)).bind λe=>F (λi=>f (y (i.1,a.1,a.2.1,a.2.2.1,a.2.2.2.2))) (λi=>(zp 64 a.2.2.2.2 [q6.mk 0 (lit []) 0 0 (O [] N)]).bind λj=>(zb j (Sl.len a.2.2.2.2)).bind λl=>yK ((zb j (Sl.len a.2.2.2.2)).bind λm=>f (M (a.1,a.2.1,a.2.2.1,i.2.1,j.set (Sl.len a.2.2.2.2) (q6.mk i.1.1 i.1.2.1 i.1.2.2.1 i.1.2.2.2 i.2.2)))) ((zb j (Sl.len a.2.2.2.2)).bind λm=>f (M (a.1,a.2.1,a.2.2.1,i.2.1,j.set (Sl.len a.2.2.2.2) (q6.mk i.1.1 i.1.2.1 i.1.2.2.1 i.1.2.2.2 i.2.2))))) e).bind λe=>F (λi=>f (y i)) (λi=>f (M i)) e else(E (lit [116,121,112,101],d.2)).bind λi=>F (λj=>f (y (j.1,a.1,a.2.1,a.2.2.1,a.2.2.2.2))) (λj=>((G (c.1.a_,j)).bind λl=>F (λm=>f (y (m.1,a.1,a.2.1,a.2.2.1,a.2.2.2.2))) (λm=>(zp 64 a.2.2.2.2 [q6.mk 0 (lit []) 0 0 (O [] N)]).bind λn=>(zb n (Sl.len a.2.2.2.2)).bind λo=>yK ((zb n (Sl.len a.2.2.2.2)).bind λp=>f (M (a.1,a.2.1,a.2.2.1,m.2.1,n.set (Sl.len a.2.2.2.2) (q6.mk m.1.1 m.1.2.1 m.1.2.2.1 m.1.2.2.2 m.2.2)))) ((zb n (Sl.len a.2.2.2.2)).bind λp=>f (M (a.1,a.2.1,a.2.2.1,m.2.1,n.set (Sl.len a.2.2.2.2) (q6.mk m.1.1 m.1.2.1 m.1.2.2.1 m.1.2.2.2 m.2.2))))) l).bind λl=>F (λm=>f (y m)) (λm=>f (M m)) l) i).bind λc=>F (λd=>f (Step.done (y d))) (λd=>f (Step.next d)) c else f (Step.done (M (a.1,a.2.1,a.2.2.1,a.2.2.2.2)))
def qhf(A:zjb)(B:xg)(C:Zv)(D:ziT)(E:Xi)(G:ziT)(H:zzD)(I:XV)(J:zzH)(x:Zq):Us (q6×zP):=(A x).bind λa=>if q (a.2.1≠0)=g then f (q6.mk 0 (lit []) 0 0 (O [] N),a.1,a.2.1) else(lpO (q60 A B C D E G H I J) ((0,lit [],0,0),a.1,a.2.1,q8.mk a.2.2 0,O [] N)).bind λb=>F (λc=>(H c).bind λd=>f (q6.mk d.1.1 d.1.2.1 d.1.2.2.1 d.1.2.2.2 (O [] N),d.2.1,d.2.2.1)) (λc=>(I (q6.mk c.1.1 c.1.2.1 c.1.2.2.1 c.1.2.2.2 c.2.2.2)).bind λd=>if q (4096 < d)=g then(J ((0,lit [],0,0),0,22,O [] N)).bind λe=>f (q6.mk e.1.1 e.1.2.1 e.1.2.2.1 e.1.2.2.2 e.2.2.2,e.2.1,e.2.2.1) else(J (c.1,0,0,c.2.2.2)).bind λi=>f (q6.mk i.1.1 i.1.2.1 i.1.2.2.1 i.1.2.2.2 i.2.2.2,i.2.1,i.2.2.1)) b
def q3i:zec:=qhf qbu q11 qx qax q13 qak qcg qeo qbd
theorem qaf:@Eq zec F50 q3i:=by delta q3i;rw[<-qld,<-q2g,<-q1d,<-qk5,<-q22,<-qjk,<-qiw,<-ql4,<-qhm];kernel_rfl
def q7x:zgC->Us (Step zgC zjS):=λa=>if q (a.2.2.1 < a.2.1)=g then(zb a.1 a.2.2.1).bind λb=>(if q (b.k_=3)=g then(zp 64 a.2.2.2.1 [kg b]).bind λc=>f (a.1,a.2.1,a.2.2.1,c,a.2.2.2.2) else(if q (b.k_=4)=g then(zp 64 a.2.2.2.2 [kg b]).bind λd=>f (a.1,a.2.1,a.2.2.1,a.2.2.2.1,d) else f a).bind λd=>f d).bind λc=>f (Step.next (c.1,c.2.1,Ut (c.2.2.1+1),c.2.2.2)) else f (Step.done a.2.2.2)
def qgc(x:q6):Us zjS:=(lpO q7x (x.K_,x.K_.len,0,O [] N,O [] N)).bind λa=>f a
def q9v:zei:=qgc
theorem ql5:@Eq zei P51.F q9v:=by kernel_rfl
def qc1(x:zjN):Us Z4:=f (q (x.1.N_=x.2),x.2)
def q74:zjN->Us Z4:=qc1
theorem qix:@Eq ((zjN)->Us Z4) P52.F q74:=by kernel_rfl
def qg7(A:zvK):zpZ->Us (Step zpZ zaq):=λa=>if q (a.2.2.1 < a.2.1)=g then(zb a.1 a.2.2.1).bind λb=>(A (b,a.2.2.2)).bind λc=>if c.1=g then f (Step.done (y (a.2.2.1,c.2))) else f (Step.next (a.1,a.2.1,Ut (a.2.2.1+1),c.2)) else f (Step.done (M a.2.2.2))
def qdc(A:zvK)(x:zcn):Us yA:=(lpO (qg7 A) (x.1,Sl.len x.1,0,x.2)).bind λa=>F (λb=>f b) (λb=>f (-1,b)) a
def qb8:zcn->Us yA:=qdc q74
theorem qk6:@Eq ((zcn)->Us yA) P53.F qb8:=by delta qb8;rw[<-qix];kernel_rfl
def qdd(A:zcn->Us yA)(x:zcn):GQ:=(A x).bind λa=>f a.1
def q25:zcn->GQ:=qdd qb8
theorem qba:@Eq ((zcn)->Us Int) P54.F q25:=by delta q25;rw[<-qk6];kernel_rfl
def qgr(x:zjL):Us Yh:=if(!x.1)=g then f (y (x.2.1.a_,x.2.2)) else f (M ())
def q6a:zjL->Us Yh:=qgr
theorem qh9:@Eq ((zjL)->Us Yh) P55.F q6a:=by kernel_rfl
def qet(x:zau):Us Z4:=f (q (x.1.T_=x.2),x.2)
def qay:zau->Us Z4:=qet
theorem ql1:@Eq ((zau)->Us Z4) P56.F qay:=by kernel_rfl
def qew(A:zi5):zeg->Us (Step zeg zaq):=λa=>if q (a.2.2.1 < a.2.1)=g then(zb a.1 a.2.2.1).bind λb=>(A (kg b,a.2.2.2)).bind λc=>if c.1=g then f (Step.done (y (a.2.2.1,c.2))) else f (Step.next (a.1,a.2.1,Ut (a.2.2.1+1),c.2)) else f (Step.done (M a.2.2.2))
def qc2(A:zi5)(x:XU):Us yA:=(lpO (qew A) (x.1,Sl.len x.1,0,x.2)).bind λa=>F (λb=>f b) (λb=>f (-1,b)) a
def qaa:XU->Us yA:=qc2 qay
theorem qiy:@Eq ((XU)->Us yA) P57.F qaa:=by delta qaa;rw[<-ql1];kernel_rfl
def qaq(A:zvG)(x:XU):Us Z4:=(A x).bind λa=>f (q (0<=a.1),a.2)
def q8c:XU->Us Z4:=qaq qaa
theorem qhn:@Eq ((XU)->Us Z4) P58.F q8c:=by delta q8c;rw[<-qiy];kernel_rfl
def qgd(A:XU->Us Z4)(x:XU):GX:=(A x).bind λa=>f a.1
def q9u:XU->GX:=qgd q8c
theorem ql6:@Eq ((XU)->Us Bool) P59.F q9u:=by delta q9u;rw[<-qhn];kernel_rfl
def q83(x:zau):Us Z4:=(if q (x.1.T_=x.2)=g then f (q (x.1.K_.len=0),x.2) else f (N,x.2)).bind λa=>f a
def q5b:zau->Us Z4:=q83
theorem qi7:@Eq ((zau)->Us Z4) P60.F q5b:=by kernel_rfl
def qe8(A:zi5):zeg->Us (Step zeg zaq):=λa=>if q (a.2.2.1 < a.2.1)=g then(zb a.1 a.2.2.1).bind λb=>(A (kg b,a.2.2.2)).bind λc=>if c.1=g then f (Step.done (y (a.2.2.1,c.2))) else f (Step.next (a.1,a.2.1,Ut (a.2.2.1+1),c.2)) else f (Step.done (M a.2.2.2))
def qbi(A:zi5)(x:XU):Us yA:=(lpO (qe8 A) (x.1,Sl.len x.1,0,x.2)).bind λa=>F (λb=>f b) (λb=>f (-1,b)) a
def q9k:XU->Us yA:=qbi q5b
theorem qi8:@Eq ((XU)->Us yA) P61.F q9k:=by delta q9k;rw[<-qi7];kernel_rfl
def qcn(A:zvG)(x:zp9):GQ:=(A (x.2.2,x.2.1)).bind λa=>f a.1
def q2y:zp9->GQ:=qcn q9k
theorem qdg:@Eq ((zp9)->Us Int) P62.F q2y:=by delta q2y;rw[<-qi8];kernel_rfl
def q1i:zpP->Us (Step zpP zes):=λa=>if q (a.2.2.2 < a.2.2.1)=g then(zb a.1 a.2.2.2).bind λb=>if q (a.2.1=b)=g then f (Step.done (y a.2.2.2)) else f (Step.next (a.1,a.2.1,a.2.2.1,Ut (a.2.2.2+1))) else f (Step.done (M ()))
def q7e(x:zju):GQ:=(lpO q1i (x.1,x.2,Sl.len x.1,0)).bind λa=>F (λb=>f b) (λb=>f (-1)) a
def q2k:zju->GQ:=q7e
theorem qc5:@Eq ((zju)->Us Int) P63.F q2k:=by kernel_rfl
def qan(A:zvT)(B:zeb)(C:zd7)(D:zck)(x:zpl):Us zaI:=(A (O [lit [111,119,110],lit [99,101,108,108],lit [99,111,117,110,116,101,100],lit [108,111,99,107],lit [103,117,97,114,100]] g,x.2.1.T_)).bind λa=>(if q (a=2)=g then f (x.1,x.2.2.1,x.2.2.2.1,a,q (a=2),(x.2.2.2.2.1.1,a,x.2.2.2.2.1.2.2),x.2.2.2.2.2.1,x.2.2.2.2.2.2,kg x.2.1) else f (x.1,x.2.2.1,x.2.2.2.1,a,q (a=3),(x.2.2.2.2.1.1,a,x.2.2.2.2.1.2.2),x.2.2.2.2.2.1,x.2.2.2.2.2.2,kg x.2.1)).bind λb=>(if b.2.2.2.2.1=g then(zb b.2.2.2.2.2.2.2.2.K_ 0).bind λc=>(B (qa.mk b.2.2.2.2.2.1.1 b.2.2.2.2.2.1.2.1 b.2.2.2.2.2.1.2.2 b.2.2.2.2.2.2.1 b.2.2.2.2.2.2.2.1,c.T_,b.2.1)).bind λd=>(C (q (0<=d),kg b.2.2.2.2.2.2.2.2,32)).bind λe=>F (λi=>f (y (i,(b.2.2.2.2.2.1.1,b.2.2.2.2.2.1.2.1,d),b.2.2.2.2.2.2.1,b.2.2.2.2.2.2.2.1))) (λi=>f (M ((b.2.2.2.2.2.1.1,b.2.2.2.2.2.1.2.1,d),b.2.2.2.2.2.2.1,b.2.2.2.2.2.2.2.1))) e else(if q (b.2.2.2.1=4)=g then(zb b.2.2.2.2.2.2.2.2.K_ 0).bind λi=>(D (b.1,i.T_)).bind λj=>(if q (0<=j)=g then(zb b.1 j).bind λl=>(C (q (l.S_=3),kg b.2.2.2.2.2.2.2.2,31)).bind λm=>F (λn=>f (y (n,(b.2.2.2.2.2.1.1,b.2.2.2.2.2.1.2.1,j),b.2.2.2.2.2.2.1,b.2.2.2.2.2.2.2.1))) (λn=>f (M (b.2.1,b.2.2.1,(b.2.2.2.2.2.1.1,b.2.2.2.2.2.1.2.1,j),b.2.2.2.2.2.2.1,b.2.2.2.2.2.2.2.1,kg b.2.2.2.2.2.2.2.2))) m else(C (N,kg b.2.2.2.2.2.2.2.2,31)).bind λn=>F (λo=>f (y (o,(b.2.2.2.2.2.1.1,b.2.2.2.2.2.1.2.1,j),b.2.2.2.2.2.2.1,b.2.2.2.2.2.2.2.1))) (λo=>f (M (b.2.1,b.2.2.1,(b.2.2.2.2.2.1.1,b.2.2.2.2.2.1.2.1,j),b.2.2.2.2.2.2.1,b.2.2.2.2.2.2.2.1,kg b.2.2.2.2.2.2.2.2))) n).bind λl=>F (λm=>f (y m)) (λm=>(C (q (Ut (Sl.len m.1+Sl.len m.2.1)=0),kg m.2.2.2.2.2,32)).bind λn=>F (λo=>f (y (o,m.2.2.1,m.2.2.2.1,m.2.2.2.2.1))) (λo=>f (M (m.2.2.1,m.2.2.2.1,m.2.2.2.2.1))) n) l else f (M (b.2.2.2.2.2.1,b.2.2.2.2.2.2.1,b.2.2.2.2.2.2.2.1))).bind λi=>F (λj=>f (y j)) (λj=>f (M j)) i).bind λc=>F (λd=>f (y d)) (λd=>f (M d)) c
def q4f:zpl->Us zaI:=qan q2k q2y q6a q25
theorem qk7:@Eq ((zpl)->Us zaI) P64.F q4f:=by delta q4f;rw[<-qc5,<-qdg,<-qh9,<-qba];kernel_rfl
def qdt(x:zao):Us (Sl qr):=(if q (x.1=lit [60])=g then f (y (O [qr.mk x.2.1 x.2.2.1 (Ut (Ut (x.2.2.2.2 - x.2.2.2.1) - 1))] g)) else(if q (x.1=lit [60,61])=g then f (y (O [qr.mk x.2.1 x.2.2.1 (Ut (x.2.2.2.2 - x.2.2.2.1))] g)) else if q (x.1=lit [61,61])=g then f (y (O [qr.mk x.2.1 x.2.2.1 (Ut (x.2.2.2.2 - x.2.2.2.1)),qr.mk x.2.2.1 x.2.1 (Ut (x.2.2.2.1 - x.2.2.2.2))] g)) else f (M ())).bind λa=>F (λb=>f (y b)) (λb=>f (M ())) a).bind λa=>F (λb=>f b) (λb=>f (O [] N)) a
def q9w:zao->Us (Sl qr):=qdt
theorem ql7:@Eq ((zao)->Us (Sl qr)) P65.F q9w:=by kernel_rfl
def q8n(A:zeb)(B:zd7)(C:zvw):zgv->Us (Step zgv zzG):=λa=>if q (a.2.2.2.1 < a.2.2.1)=g then((zb a.2.1 a.2.2.2.1).bind λb=>if q (b.T_=lit [])=g then f (y (a.1,a.2.1,a.2.2.1,a.2.2.2.1,a.2.2.2.2.1,a.2.2.2.2.2.1,a.2.2.2.2.2.2.1,kg a.2.2.2.2.2.2.2.1,a.2.2.2.2.2.2.2.2)) else(A (qa.mk a.2.2.2.2.1.1 a.2.2.2.2.1.2.1 a.2.2.2.2.1.2.2 a.2.2.2.2.2.1 a.2.2.2.2.2.2.1,b.T_,a.1)).bind λc=>(if q (0<=c)=g then if q (a.2.2.2.2.1.2.1=2)=g then(B (!q (c=a.2.2.2.2.1.2.2),kg a.2.2.2.2.2.2.2.1,33)).bind λd=>F (λe=>f (y (e,a.2.2.2.2.1,a.2.2.2.2.2.1,a.2.2.2.2.2.2.1))) (λe=>f (M (a.1,a.2.2.2.1,c,a.2.1,a.2.2.1,a.2.2.2.1,a.2.2.2.2.1,a.2.2.2.2.2.1,a.2.2.2.2.2.2.1,kg a.2.2.2.2.2.2.2.1,a.2.2.2.2.2.2.2.2))) d else if q (a.2.2.2.2.1.2.1=3)=g then(B (!q (c=a.2.2.2.2.1.2.2),kg a.2.2.2.2.2.2.2.1,33)).bind λe=>F (λi=>f (y (i,a.2.2.2.2.1,a.2.2.2.2.2.1,a.2.2.2.2.2.2.1))) (λi=>f (M (a.1,a.2.2.2.1,c,a.2.1,a.2.2.1,a.2.2.2.1,a.2.2.2.2.1,a.2.2.2.2.2.1,a.2.2.2.2.2.2.1,kg a.2.2.2.2.2.2.2.1,a.2.2.2.2.2.2.2.2))) e else(B (!N,kg a.2.2.2.2.2.2.2.1,33)).bind λi=>F (λj=>f (y (j,a.2.2.2.2.1,a.2.2.2.2.2.1,a.2.2.2.2.2.2.1))) (λj=>f (M (a.1,a.2.2.2.1,c,a.2.1,a.2.2.1,a.2.2.2.1,a.2.2.2.2.1,a.2.2.2.2.2.1,a.2.2.2.2.2.2.1,kg a.2.2.2.2.2.2.2.1,a.2.2.2.2.2.2.2.2))) i else(B (N,kg a.2.2.2.2.2.2.2.1,33)).bind λj=>F (λl=>f (y (l,a.2.2.2.2.1,a.2.2.2.2.2.1,a.2.2.2.2.2.2.1))) (λl=>f (M (a.1,a.2.2.2.1,c,a.2.1,a.2.2.1,a.2.2.2.1,a.2.2.2.2.1,a.2.2.2.2.2.1,a.2.2.2.2.2.2.1,kg a.2.2.2.2.2.2.2.1,a.2.2.2.2.2.2.2.2))) j).bind λd=>F (λe=>f (M e)) (λe=>(bif q (e.2.1=1) then f (e.1,e.2.2.2.1,e.2.2.2.2.1,e.2.2.2.2.2.1,e.2.2.2.2.2.2.1,e.2.2.2.2.2.2.2.1,e.2.2.2.2.2.2.2.2.1,kg e.2.2.2.2.2.2.2.2.2.1,e.2.2.2.2.2.2.2.2.2.2.1,Ut (e.2.2.1+1)) else bif q (e.2.1=0) then f (e.1,e.2.2.2.1,e.2.2.2.2.1,e.2.2.2.2.2.1,e.2.2.2.2.2.2.1,e.2.2.2.2.2.2.2.1,e.2.2.2.2.2.2.2.2.1,kg e.2.2.2.2.2.2.2.2.2.1,Ut (e.2.2.1+1),e.2.2.2.2.2.2.2.2.2.2.2) else W).bind λi=>f (y (i.1,i.2.1,i.2.2.1,i.2.2.2.1,i.2.2.2.2.1,i.2.2.2.2.2.1,i.2.2.2.2.2.2.1,kg i.2.2.2.2.2.2.2.1,i.2.2.2.2.2.2.2.2))) d).bind λb=>F (λc=>f (Step.next (c.1,c.2.1,c.2.2.1,Ut (c.2.2.2.1+1),c.2.2.2.2.1,c.2.2.2.2.2.1,c.2.2.2.2.2.2.1,kg c.2.2.2.2.2.2.2.1,c.2.2.2.2.2.2.2.2))) (λc=>f (Step.done (y c))) b else f (Step.done (M (a.2.2.2.2.1,a.2.2.2.2.2.1,a.2.2.2.2.2.2.1,kg a.2.2.2.2.2.2.2.1,a.2.2.2.2.2.2.2.2)))
def qaz(A:zeb)(B:zd7)(C:zvw)(x:zpw):Us zaI:=(lpO (q8n A B C) (x.2.1,x.1.K_,x.1.K_.len,0,x.2.2.1,x.2.2.2.1,x.2.2.2.2,kg x.1,0,0)).bind λa=>F (λb=>f (y b)) (λb=>(zb b.2.2.2.1.K_ 0).bind λc=>(zb b.2.2.2.1.K_ 1).bind λd=>(C (b.2.2.2.1.T_,b.2.2.2.2.1,b.2.2.2.2.2,c.n_,d.n_)).bind λe=>(zp 24 b.2.2.1 e.xs).bind λi=>f (M (b.1,b.2.1,i))) a
def q54:zpw->Us zaI:=qaz q2y q6a q9w
theorem qkk:@Eq ((zpw)->Us zaI) P66.F q54:=by delta q54;rw[<-qdg,<-qh9,<-ql7];kernel_rfl
def q8o(A:zei)(B:zck)(C:zd7)(D:zpX)(E:zeb)(G:tA2)(H:tA9):zo8->Us (Step zo8 zzM):=λa=>if q (a.2.2.2.2.1 < a.2.2.2.1)=g then((zb a.2.2.1 a.2.2.2.2.1).bind λb=>(Zd a.2.1 0 a.2.2.2.2.1).bind λc=>(D (c,b.T_)).bind λd=>(C (!d,kg b,30)).bind λe=>F (λi=>f (y i)) (λi=>(if q (0 < b.K_.len)=g then(zb b.K_ 0).bind λj=>(E (qa.mk a.2.2.2.2.2.2.2.2.1.1 a.2.2.2.2.2.2.2.2.1.2.1 a.2.2.2.2.2.2.2.2.1.2.2 a.2.2.2.2.2.2.2.2.2 (O [] N),j.T_,a.2.1)).bind λl=>((zb a.2.2.2.2.2.1.K_ 0).bind λm=>if q (m.T_=lit [111,119,110])=g then(C (q (0<=l),kg b,32)).bind λn=>F (λo=>f (y o)) (λo=>f (M (a.1,a.2.1,l,a.2.2.1,a.2.2.2.1,a.2.2.2.2.1,kg a.2.2.2.2.2.1,a.2.2.2.2.2.2.1,a.2.2.2.2.2.2.2.1,a.2.2.2.2.2.2.2.2.1,kg b,a.2.2.2.2.2.2.2.2.2))) n else(C (N,kg b,32)).bind λo=>F (λp=>f (y p)) (λp=>f (M (a.1,a.2.1,l,a.2.2.1,a.2.2.2.1,a.2.2.2.2.1,kg a.2.2.2.2.2.1,a.2.2.2.2.2.2.1,a.2.2.2.2.2.2.2.1,a.2.2.2.2.2.2.2.2.1,kg b,a.2.2.2.2.2.2.2.2.2))) o).bind λm=>F (λn=>f (y n)) (λn=>f (M (n.1,n.2.1,n.2.2.1,n.2.2.2.1,n.2.2.2.2.1,n.2.2.2.2.2.1,kg n.2.2.2.2.2.2.1,n.2.2.2.2.2.2.2.1,n.2.2.2.2.2.2.2.2.1,n.2.2.2.2.2.2.2.2.2.1,kg n.2.2.2.2.2.2.2.2.2.2.1,n.2.2.2.2.2.2.2.2.2.2.2))) m else f (M (a.1,a.2.1, -1,a.2.2.1,a.2.2.2.1,a.2.2.2.2.1,kg a.2.2.2.2.2.1,a.2.2.2.2.2.2.1,a.2.2.2.2.2.2.2.1,a.2.2.2.2.2.2.2.2.1,kg b,a.2.2.2.2.2.2.2.2.2))).bind λj=>F (λl=>f (y l)) (λl=>(zp 24 l.2.2.2.2.2.2.2.2.2.2.2 [qp.mk l.2.2.2.2.2.2.2.2.2.2.1.T_ l.2.2.1]).bind λm=>f (M (l.1,l.2.1,l.2.2.2.1,l.2.2.2.2.1,l.2.2.2.2.2.1,kg l.2.2.2.2.2.2.1,l.2.2.2.2.2.2.2.1,l.2.2.2.2.2.2.2.2.1,l.2.2.2.2.2.2.2.2.2.1,m))) j) e).bind λb=>F (λc=>f (Step.done (y c))) (λc=>f (Step.next (c.1,c.2.1,c.2.2.1,c.2.2.2.1,Ut (c.2.2.2.2.1+1),kg c.2.2.2.2.2.1,c.2.2.2.2.2.2))) b else f (Step.done (M (a.1,a.2.1,kg a.2.2.2.2.2.1,a.2.2.2.2.2.2)))
def q8p(A:zei)(B:zck)(C:zd7)(D:zpX)(E:zeb)(G:tA2)(H:tA9):zuB->Us (Step zuB zu9):=λa=>if q (a.2.2.2.1 < a.2.2.1)=g then(zb a.2.1 a.2.2.2.1).bind λb=>(H (kg b,a.1,a.2.2.2.2.2)).bind λc=>F (λd=>f (Step.done (y d.1))) (λd=>f (Step.next (a.1,a.2.1,a.2.2.1,Ut (a.2.2.2.1+1),a.2.2.2.2.1,d))) c else f (Step.done (M a.2.2.2.2))
def qb0(A:zei)(B:zck)(C:zd7)(D:zpX)(E:zeb)(G:tA2)(H:tA9)(x:GT×q6):Us zgy:=(A (kg x.2)).bind λa=>(B (x.1,x.2.T_)).bind λb=>(C (q (b < 0),kg x.2,30)).bind λc=>F (λd=>f (y d)) (λd=>(C (q (Sl.len a.1<=8),kg x.2,22)).bind λe=>F (λi=>f (y i)) (λi=>(lpO (q8o A B C D E G H) (x.1,a.1,a.1,Sl.len a.1,0,kg x.2,(lit [],0,0),a.2,(x.2.T_,0,0),O [] N)).bind λj=>F (λl=>f (y l)) (λl=>(zb l.2.2.1.K_ 0).bind λm=>(G (l.1,kg m,l.2.1,l.2.2.2.2.1,l.2.2.2.2.2.1,l.2.2.2.2.2.2,O [] N)).bind λn=>F (λo=>f (y o.1)) (λo=>(lpO (q8p A B C D E G H) (l.2.1,l.2.2.2.2.1,Sl.len l.2.2.2.2.1,0,l.2.2.2.1,o)).bind λp=>F (λr=>f (y r)) (λr=>f (M r.2)) p) n) j) e) c
def q5z:GT×q6->Us zgy:=qb0 q9v q25 q6a q9u q2y q4f q54
theorem qkl:@Eq ((Sl qa×q6)->Us zgy) P67.F q5z:=by delta q5z;rw[<-ql5,<-qba,<-qh9,<-ql6,<-qdg,<-qk7,<-qkk];kernel_rfl
def qco(x:zjj):Us xh:=f (x.1.1,x.1.2,x.2.2.2)
def q7q:zjj->Us xh:=qco
theorem qjl:@Eq ((zjj)->Us xh) F68 q7q:=by kernel_rfl
def qbj(x:xh):Us xh:=f x
def q6o:xh->Us xh:=qbj
theorem qi9:@Eq ((xh)->Us xh) F69 q6o:=by kernel_rfl
def qby(A:zvb)(B:zvn)(C:zvD):zgA->Us (Step zgA zvm):=λa=>if q (a.2.2.1 < a.2.1)=g then(zb a.1 a.2.2.1).bind λb=>(if q (b.k_=1)=g then(yK ((A (a.2.2.2.2.2.2,kg b)).bind λc=>F (λd=>f (y (d,kg a.2.2.2.1,a.2.2.2.2))) (λd=>(zp 80 a.2.2.2.2.2.2 [qa.mk d.1.1 d.1.2.1 d.1.2.2 d.2.1 d.2.2]).bind λe=>f (M (a.1,a.2.1,a.2.2.1,kg a.2.2.2.1,a.2.2.2.2.1,a.2.2.2.2.2.1,e))) c) ((A (a.2.2.2.2.2.2,kg b)).bind λc=>F (λd=>f (y (d,kg a.2.2.2.1,a.2.2.2.2))) (λd=>yK ((zp 80 a.2.2.2.2.2.2 [qa.mk d.1.1 d.1.2.1 d.1.2.2 d.2.1 d.2.2]).bind λe=>f (M (a.1,a.2.1,a.2.2.1,kg a.2.2.2.1,a.2.2.2.2.1,a.2.2.2.2.2.1,e))) ((zp 80 a.2.2.2.2.2.2 [qa.mk d.1.1 d.1.2.1 d.1.2.2 d.2.1 d.2.2]).bind λe=>f (M (a.1,a.2.1,a.2.2.1,kg a.2.2.2.1,a.2.2.2.2.1,a.2.2.2.2.2.1,e)))) c)).bind λc=>F (λd=>f (y (d.1,kg d.2.1,d.2.2))) (λd=>f (M (d.1,d.2.1,d.2.2.1,kg d.2.2.2.1,d.2.2.2.2))) c else f (M (a.1,a.2.1,a.2.2.1,kg a.2.2.2.1,a.2.2.2.2))).bind λc=>F (λd=>f (Step.done (y (d.1,kg d.2.1,d.2.2)))) (λd=>f (Step.next (d.1,d.2.1,Ut (d.2.2.1+1),kg d.2.2.2.1,d.2.2.2.2))) c else f (Step.done (M (kg a.2.2.2.1,a.2.2.2.2)))
def qdu(A:zvb)(B:zvn)(C:zvD)(x:q6):Us xh:=(lpO (qby A B C) (x.K_,x.K_.len,0,kg x,0,0,O [] N)).bind λa=>F (λb=>(B (b.1,b.2.2)).bind λc=>f (c.1,c.2.1,O [] N)) (λb=>(C (0,0,b.2.2.2)).bind λc=>f c) a
def q5k:zjm:=qdu q5z q7q q6o
theorem qjg:@Eq zjm F70 q5k:=by delta q5k;rw[<-qkl,<-qjl,<-qi9];kernel_rfl
def qfn(A:zvT)(B:zck)(x:vK):Us (qf×Int):=(A (O [lit [],lit [105,110,116],lit [111,119,110],lit [38],lit [38,109,117,116]] g,x.1.T_)).bind λa=>(if q (0 < x.1.K_.len)=g then(zb x.1.K_ 0).bind λb=>(B (x.2,b.T_)).bind λc=>if q (c < 0)=g then f (y (31,qf.mk (lit []) 0 0)) else f (M (qf.mk (lit []) 0 0,qf.mk (lit []) a c)) else f (M (qf.mk (lit []) 0 0,qf.mk (lit []) a 0))).bind λb=>F (λc=>f (c.2,c.1)) (λc=>f (c.2,0)) b
def qad:vK->Us (qf×Int):=qfn q2k q25
theorem qlk:@Eq ((vK)->Us (qf×Int)) P71.F qad:=by delta qad;rw[<-qc5,<-qba];kernel_rfl
def qgs(x:qf×qf):Us Wi:=f (q (x.1.N_=x.2.N_),x.2)
def qag:qf×qf->Us Wi:=qgs
theorem qle:@Eq ((qf×qf)->Us Wi) P72.F qag:=by kernel_rfl
def qb1(A:zjr):zem->Us (Step zem zjp):=λa=>if q (a.2.1 < a.1)=g then(zb a.2.2.1 a.2.1).bind λb=>(zb a.2.2.1 a.2.1).bind λc=>(A (c,a.2.2.2)).bind λd=>if d.1=g then f (Step.done (y (a.2.1,a.2.2.1,d.2))) else f (Step.next (a.1,Ut (a.2.1+1),a.2.2.1,d.2)) else f (Step.done (M a.2.2))
def qdn(A:zjr)(x:Xk):Us WZ:=(lpO (qb1 A) (Sl.len x.1,0,x)).bind λa=>F (λb=>f b) (λb=>f (-1,b)) a
def qbr:Xk->Us WZ:=qdn qag
theorem qkm:@Eq ((Xk)->Us WZ) P73.F qbr:=by delta qbr;rw[<-qle];kernel_rfl
def qcp(A:zvR)(x:Xk):Us zas:=(A x).bind λa=>f (q (0<=a.1),a.2)
def q57:Xk->Us zas:=qcp qbr
theorem qjm:@Eq ((Xk)->Us zas) P74.F q57:=by delta q57;rw[<-qkm];kernel_rfl
def qdv(x:zet):GX:=(if q (1 < x.1.M_)=g then(zb x.2 x.1.t_).bind λa=>f (q (a.S_≠0)) else f N).bind λa=>f a
def q7c:zet->GX:=qdv
theorem ql8:@Eq ((zet)->Us Bool) P75.F q7c:=by kernel_rfl
def qep(x:qf×qf):Us Wi:=(if q (1 < x.1.M_)=g then f (q (x.1.t_=x.2.t_),x.2) else f (N,x.2)).bind λa=>f a
def q8q:qf×qf->Us Wi:=qep
theorem qlf:@Eq ((qf×qf)->Us Wi) P76.F q8q:=by kernel_rfl
def qb2(A:zjr):zem->Us (Step zem zjp):=λa=>if q (a.2.1 < a.1)=g then(zb a.2.2.1 a.2.1).bind λb=>(zb a.2.2.1 a.2.1).bind λc=>(A (c,a.2.2.2)).bind λd=>if d.1=g then f (Step.done (y (a.2.1,a.2.2.1,d.2))) else f (Step.next (a.1,Ut (a.2.1+1),a.2.2.1,d.2)) else f (Step.done (M a.2.2))
def qdo(A:zjr)(x:Xk):Us WZ:=(lpO (qb2 A) (Sl.len x.1,0,x)).bind λa=>F (λb=>f b) (λb=>f (-1,b)) a
def qbs:Xk->Us WZ:=qdo q8q
theorem qkn:@Eq ((Xk)->Us WZ) P77.F qbs:=by delta qbs;rw[<-qlf];kernel_rfl
def qcq(A:zvR)(x:Xk):Us zas:=(A x).bind λa=>f (q (0<=a.1),a.2)
def q58:Xk->Us zas:=qcq qbs
theorem qjn:@Eq ((Xk)->Us zas) P78.F q58:=by delta q58;rw[<-qkn];kernel_rfl
def qd3(A:zvZ)(B:zja)(C:zet->GX)(D:zja):zup->Us (Step zup zzv):=λa=>if q (a.2.2.2.2.1 < a.2.2.2.1)=g then(zb a.2.2.1 a.2.2.2.2.1).bind λb=>(zb b.K_ 0).bind λc=>(A (kg c,a.1)).bind λd=>(B (a.2.2.2.2.2.2.2.2,qf.mk b.T_ d.1.M_ d.1.t_)).bind λe=>(if e.1=g then f (y (b.a_,30,lit [],lit [],0,0)) else(if q (d.2≠0)=g then(zb b.K_ 0).bind λi=>f (y (i.a_,d.2,lit [],lit [],0,0)) else((C (e.2.2,a.1)).bind λj=>if j=g then(D e.2).bind λl=>f (a.1,a.2.1,a.2.2.1,a.2.2.2.1,a.2.2.2.2.1,l.1,kg a.2.2.2.2.2.1,a.2.2.2.2.2.2.1,a.2.2.2.2.2.2.2.1,kg b,l.2.2,l.2.1) else f (a.1,a.2.1,a.2.2.1,a.2.2.2.1,a.2.2.2.2.1,N,kg a.2.2.2.2.2.1,a.2.2.2.2.2.2.1,a.2.2.2.2.2.2.2.1,kg b,e.2.2,e.2.1)).bind λj=>if j.2.2.2.2.2.1=g then(zb j.2.2.2.2.2.2.2.2.2.1.K_ 0).bind λl=>f (y (l.a_,34,lit [],lit [],0,0)) else f (M (j.1,j.2.1,j.2.2.1,j.2.2.2.1,j.2.2.2.2.1,kg j.2.2.2.2.2.2.1,j.2.2.2.2.2.2.2.1,j.2.2.2.2.2.2.2.2.1,j.2.2.2.2.2.2.2.2.2.2))).bind λi=>F (λj=>f (y j)) (λj=>f (M (j.1,j.2.1,j.2.2.1,j.2.2.2.1,j.2.2.2.2.1,kg j.2.2.2.2.2.1,j.2.2.2.2.2.2))) i).bind λi=>F (λj=>f (Step.done (y j))) (λj=>(zp 32 j.2.2.2.2.2.2.2.2.2 [j.2.2.2.2.2.2.2.2.1]).bind λl=>f (Step.next (j.1,j.2.1,j.2.2.1,j.2.2.2.1,Ut (j.2.2.2.2.1+1),kg j.2.2.2.2.2.1,j.2.2.2.2.2.2.1,j.2.2.2.2.2.2.2.1,l))) i else f (Step.done (M (a.1,a.2.1,kg a.2.2.2.2.2.1,a.2.2.2.2.2.2)))
def qgf(A:zvZ)(B:zja)(C:zet->GX)(D:zja)(x:vK):Us zjO:=if q (8 < Ut (x.1.K_.len - 2))=g then f (qd.mk (lit []) (O [] N) (qf.mk (lit []) 0 0),x.1.a_,22) else(Zd x.1.K_ 0 (Ut (x.1.K_.len - 2))).bind λa=>(lpO (qd3 A B C D) (x.2,Ut (x.1.K_.len - 2),a,a.len,0,kg x.1,(lit [],lit [],0,0),(x.1.T_,lit [],0,0),O [] N)).bind λb=>F (λc=>f (qd.mk c.2.2.1 (O [] N) (qf.mk c.2.2.2.1 c.2.2.2.2.1 c.2.2.2.2.2),c.1,c.2.1)) (λc=>(zb c.2.2.1.K_ c.2.1).bind λd=>(A (kg d,c.1)).bind λe=>if q (e.2≠0)=g then(zb c.2.2.1.K_ c.2.1).bind λi=>f (qd.mk (lit []) (O [] N) (qf.mk (lit []) 0 0),i.a_,e.2) else f (qd.mk c.2.2.2.2.1.1 c.2.2.2.2.2 e.1,0,0)) b
def qb3:vK->Us zjO:=qgf qad q57 q7c q58
theorem qlp:@Eq ((vK)->Us zjO) P79.F qb3:=by delta qb3;rw[<-qlk,<-qjm,<-ql8,<-qjn];kernel_rfl
def qbz(A:zvV):zjh->Us (Step zjh (zP⊕Sl qd)):=λa=>if q (a.2.2.2.1 < a.2.2.1)=g then((zb a.2.1 a.2.2.2.1).bind λb=>if q (b.k_≠6)=g then f (y a) else(A (kg b,a.1)).bind λc=>if q (c.2.2≠0)=g then f (M c.2) else(zp 72 a.2.2.2.2 [c.1]).bind λd=>f (y (a.1,a.2.1,a.2.2.1,a.2.2.2.1,d))).bind λb=>F (λc=>f (Step.next (c.1,c.2.1,c.2.2.1,Ut (c.2.2.2.1+1),c.2.2.2.2))) (λc=>f (Step.done (y c))) b else f (Step.done (M a.2.2.2.2))
def qfo(A:zvV)(x:vK):Us zjG:=(lpO (qbz A) (x.2,x.1.K_,x.1.K_.len,0,O [] N)).bind λa=>F (λb=>f (b.1,b.2,O [] N)) (λb=>f (0,0,b)) a
def q6b:vK->Us zjG:=qfo qb3
theorem qkv:@Eq ((vK)->Us zjG) P80.F q6b:=by delta q6b;rw[<-qlp];kernel_rfl
def qe3(x:Int):GX:=(if q (97<=x)=g then if q (x<=122)=g then f g else f (q (x=95)) else f (q (x=95))).bind λa=>f a
def q2m:zL:=qe3
theorem qho:@Eq zL P81.F q2m:=by kernel_rfl
def qed(x:Int):GX:=(if q (48<=x)=g then f (q (x<=57)) else f N).bind λa=>f a
def q48:zL:=qed
theorem qia:@Eq zL P82.F q48:=by kernel_rfl
def qee(x:Zq):GX:=(if q (x=lit [116,121,112,101])=g then f (q (x=lit [116,121,112,101])) else(if q (x=lit [102,110])=g then f (q (x=lit [102,110])) else(if q (x=lit [111,119,110])=g then f (q (x=lit [111,119,110])) else(if q (x=lit [99,101,108,108])=g then f (q (x=lit [99,101,108,108])) else(if q (x=lit [99,111,117,110,116,101,100])=g then f (q (x=lit [99,111,117,110,116,101,100])) else(if q (x=lit [108,111,99,107])=g then f (q (x=lit [108,111,99,107])) else(if q (x=lit [103,117,97,114,100])=g then f (q (x=lit [103,117,97,114,100])) else(if q (x=lit [119,104,101,114,101])=g then f (q (x=lit [119,104,101,114,101])) else(if q (x=lit [105,110,116])=g then f (q (x=lit [105,110,116])) else(if q (x=lit [109,117,116])=g then f (q (x=lit [109,117,116])) else(if q (x=lit [102,114,101,101])=g then f (q (x=lit [102,114,101,101])) else(if q (x=lit [117,110,108,111,99,107])=g then f (q (x=lit [117,110,108,111,99,107])) else(if q (x=lit [105,102])=g then f (q (x=lit [105,102])) else(if q (x=lit [101,108,115,101])=g then f (q (x=lit [101,108,115,101])) else(if q (x=lit [119,104,105,108,101])=g then f (q (x=lit [119,104,105,108,101])) else(if q (x=lit [114,101,116,117,114,110])=g then f (q (x=lit [114,101,116,117,114,110])) else(if q (x=lit [97,98,111,114,116])=g then f (q (x=lit [97,98,111,114,116])) else(if q (x=lit [102,111,114,107])=g then f (q (x=lit [102,111,114,107])) else(if q (x=lit [110,101,119])=g then f (q (x=lit [110,101,119])) else f (q (x=lit [97,114,114,97,121]))).bind λa=>f a).bind λa=>f a).bind λa=>f a).bind λa=>f a).bind λa=>f a).bind λa=>f a).bind λa=>f a).bind λa=>f a).bind λa=>f a).bind λa=>f a).bind λa=>f a).bind λa=>f a).bind λa=>f a).bind λa=>f a).bind λa=>f a).bind λa=>f a).bind λa=>f a).bind λa=>f a).bind λa=>if a=g then f g else f N
def q3n:WY:=qee
theorem qib:@Eq WY P83.F q3n:=by kernel_rfl
def qbv(x:zZ):GQ:=(if q (Ut (x.2+1) < (↑(V x.1):Int))=g then(ZJ x.1 x.2 (Ut (x.2+2))).bind λa=>f (x.1,x.2,a) else f (x.1,x.2,lit [])).bind λa=>(if q (a.2.2=lit [45,62])=g then f (a.1,a.2.1,g) else if q (a.2.2=lit [60,61])=g then f (a.1,a.2.1,g) else f (a.1,a.2.1,q (a.2.2=lit [61,61]))).bind λb=>if b.2.2=g then f 2 else(Zf b.1 b.2.1).bind λc=>(if q (c=123)=g then f (q (c=123)) else(if q (c=125)=g then f (q (c=125)) else(if q (c=40)=g then f (q (c=40)) else(if q (c=41)=g then f (q (c=41)) else(if q (c=91)=g then f (q (c=91)) else(if q (c=93)=g then f (q (c=93)) else(if q (c=44)=g then f (q (c=44)) else(if q (c=58)=g then f (q (c=58)) else(if q (c=59)=g then f (q (c=59)) else(if q (c=61)=g then f (q (c=61)) else(if q (c=43)=g then f (q (c=43)) else(if q (c=45)=g then f (q (c=45)) else(if q (c=38)=g then f (q (c=38)) else f (q (c=60))).bind λd=>f d).bind λd=>f d).bind λd=>f d).bind λd=>f d).bind λd=>f d).bind λd=>f d).bind λd=>f d).bind λd=>f d).bind λd=>f d).bind λd=>f d).bind λd=>f d).bind λd=>f d).bind λd=>if d=g then f 1 else f 0
def q3x:zZ->GQ:=qbv
theorem qiz:@Eq ((zZ)->Us Int) P84.F q3x:=by kernel_rfl
def q70(A:zL)(B:zL)(C:WY)(D:Wf):zgE->Us (Step zgE zgE):=λa=>if q (a.2.2.1 < (↑(V a.1):Int))=g then(Zf a.1 a.2.2.1).bind λb=>(A b).bind λc=>(Zf a.1 a.2.2.1).bind λd=>(B d).bind λe=>(if(!c)=g then f (a.1,a.2.1,a.2.2.1, !e,a.2.2.2) else f (a.1,a.2.1,a.2.2.1,N,a.2.2.2)).bind λi=>if i.2.2.2.1=g then f (Step.done (i.1,i.2.1,i.2.2.1,i.2.2.2.2)) else f (Step.next (i.1,i.2.1,Ut (i.2.2.1+1),i.2.2.2.2)) else f (Step.done a)
def q71(A:zL)(B:zL)(C:WY)(D:Wf):zaj->Us (Step zaj zaj):=λa=>if q (a.2.2.1 < (↑(V a.1):Int))=g then(Zf a.1 a.2.2.1).bind λb=>(B b).bind λc=>if(!c)=g then f (Step.done a) else(if q (a.2.2.2.1<=1099511627776)=g then(Zf a.1 a.2.2.1).bind λd=>f (a.1,a.2.1,a.2.2.1,Ut (Ut (a.2.2.2.1 * 10)+Ut (IntKind.u8.wrap (d - 48))),a.2.2.2.2) else f a).bind λd=>(if q (1099511627776 < d.2.2.2.1)=g then f (d.1,d.2.1,d.2.2.1,d.2.2.2.1,g,d.2.2.2.2.2) else f d).bind λe=>f (Step.next (e.1,e.2.1,Ut (e.2.2.1+1),e.2.2.2)) else f (Step.done a)
def qcd(A:zL)(B:zL)(C:WY)(D:Wf)(x:zZ):Us (q9×Int):=(Zf x.1 x.2).bind λa=>(A a).bind λb=>(Zf x.1 x.2).bind λc=>(B c).bind λd=>(if b=g then(lpO (q70 A B C D) (x.1,x.2,x.2,q9.mk 0 (lit []) 0 0,q9.mk 0 (lit []) 0 x.2)).bind λe=>(ZJ e.1 e.2.1 e.2.2.1).bind λi=>if q (16 < (↑i.size:Int))=g then f (y (13,q9.mk 0 (lit []) 0 0)) else(C i).bind λj=>(if j=g then f (e.2.2.2.1,q9.mk 2 i e.2.2.2.2.n_ e.2.2.2.2.a_) else f (e.2.2.2.1,q9.mk 1 i e.2.2.2.2.n_ e.2.2.2.2.a_)).bind λl=>f (y (0,l.2)) else f (M (x.1,x.2,x.2,d,q9.mk 0 (lit []) 0 0,q9.mk 0 (lit []) 0 x.2))).bind λe=>F (λi=>f (i.2,i.1)) (λi=>(if i.2.2.2.1=g then(lpO (q71 A B C D) (i.1,i.2.1,i.2.2.1,0,N,i.2.2.2.2)).bind λj=>(if q (j.2.2.1 < (↑(V j.1):Int))=g then(Zf j.1 j.2.2.1).bind λl=>(A l).bind λm=>f (j.1,j.2.1,j.2.2.1,j.2.2.2.1,j.2.2.2.2.1,m,j.2.2.2.2.2) else f (j.1,j.2.1,j.2.2.1,j.2.2.2.1,j.2.2.2.2.1,N,j.2.2.2.2.2)).bind λl=>(if l.2.2.2.2.1=g then f (l.1,l.2.1,l.2.2.1,l.2.2.2.1,g,l.2.2.2.2.2.2) else if l.2.2.2.2.2.1=g then f (l.1,l.2.1,l.2.2.1,l.2.2.2.1,g,l.2.2.2.2.2.2) else(Zf l.1 l.2.1).bind λm=>if q (m=48)=g then f (l.1,l.2.1,l.2.2.1,l.2.2.2.1,q (Ut (l.2.1+1) < l.2.2.1),l.2.2.2.2.2.2) else f (l.1,l.2.1,l.2.2.1,l.2.2.2.1,N,l.2.2.2.2.2.2)).bind λm=>if m.2.2.2.2.1=g then f (y (12,q9.mk 0 (lit []) 0 0)) else(ZJ m.1 m.2.1 m.2.2.1).bind λn=>f (y (0,q9.mk 3 n m.2.2.2.1 m.2.2.2.2.2.2.a_)) else f (M (i.1,i.2.1,i.2.2.2.2))).bind λj=>F (λl=>f (l.2,l.1)) (λl=>(D (l.1,l.2.1)).bind λm=>if q (m=0)=g then f (q9.mk 0 (lit []) 0 0,11) else(ZJ l.1 l.2.1 (Ut (l.2.1+m))).bind λn=>f (q9.mk 4 n l.2.2.2.n_ l.2.2.2.a_,0)) j) e
def q61:zZ->Us (q9×Int):=qcd q2m q48 q3n q3x
theorem qjo:@Eq ((zZ)->Us (q9×Int)) P85.F q61:=by delta q61;rw[<-qho,<-qia,<-qib,<-qiz];kernel_rfl
def q7f(A:zpT):vI->Us (Step vI vI):=λa=>(if q (a.2.1 < (↑(V a.1):Int))=g then(Zf a.1 a.2.1).bind λb=>f (a.1,a.2.1,q (b≠10),a.2.2) else f (a.1,a.2.1,N,a.2.2)).bind λb=>if b.2.2.1=g then f (Step.next (b.1,Ut (b.2.1+1),b.2.2.2)) else f (Step.done (b.1,b.2.1,b.2.2.2))
def q7g(A:zpT):vI->Us (Step vI zv2):=λa=>if q (a.2.1 < (↑(V a.1):Int))=g then(((Zf a.1 a.2.1).bind λb=>if q (b=32)=g then f (a.1,a.2.1,g,a.2.2) else(Zf a.1 a.2.1).bind λc=>f (a.1,a.2.1,q (c=10),a.2.2)).bind λb=>if b.2.2.1=g then f (y (b.1,Ut (b.2.1+1),b.2.2.2)) else(Zf b.1 b.2.1).bind λc=>if q (c=35)=g then(lpO (q7f A) (b.1,b.2.1,b.2.2.2)).bind λd=>f (y d) else(A (b.1,b.2.1)).bind λe=>if q (e.2≠0)=g then f (M (b.2.1,e.2)) else(zp 40 b.2.2.2 [e.1]).bind λi=>f (y (b.1,Ut (b.2.1+(↑e.1.T_.size:Int)),i))).bind λb=>F (λc=>f (Step.next c)) (λc=>f (Step.done (y c))) b else f (Step.done (M (a.1,a.2.2)))
def qap(A:zpT)(x:Zq):Us (Int×Int×Ug):=if q (16384 < (↑x.size:Int))=g then f (0,10,O [] N) else(lpO (q7g A) (x,0,O [] N)).bind λa=>F (λb=>f (b.1,b.2,O [] N)) (λb=>(zp 40 b.2 [q9.mk 0 (lit []) 0 (↑(V b.1):Int)]).bind λc=>f (0,0,c)) a
def q69:zjc:=qap q61
theorem qhp:@Eq zjc P86.F q69:=by delta q69;rw[<-qjo];kernel_rfl
def qal(x:xc):Us zW:=(zb x.2.2 x.2.1.1).bind λa=>(zb x.2.2 x.2.1.1).bind λb=>(if q (x.2.1.2.2.1=0)=g then if q (b.k_=2)=g then(zb x.2.2 x.2.1.1).bind λc=>(zb x.2.2 x.2.1.1).bind λd=>f (q (d.T_=x.1),x.2) else if q (b.k_=4)=g then(zb x.2.2 x.2.1.1).bind λe=>(zb x.2.2 x.2.1.1).bind λi=>f (q (i.T_=x.1),x.2) else f (N,x.2) else f (N,x.2)).bind λc=>f c
def q1j:xc->Us zW:=qal
theorem q6z:@Eq ((xc)->Us zW) P87.F q1j:=by kernel_rfl
def qa0(A:yc)(x:xc):Us zW:=(A x).bind λa=>(if a.1=g then f (a.1,(Ut (a.2.1.1+1),a.2.1.2),a.2.2) else f a).bind λb=>f b
def qu:xc->Us zW:=qa0 q1j
theorem q1l:@Eq ((xc)->Us zW) P88.F qu:=by delta qu;rw[<-q6z];kernel_rfl
def q8v(x:Yf):Us zC:=(if q (x.2.1.2.2.1=0)=g then(zb x.2.2 x.2.1.1).bind λa=>(zb x.2.2 x.2.1.1).bind λb=>f ((x.2.1.1,x.2.1.2.1,x.1,b.a_),x.2.2) else f x.2).bind λa=>f a
def q15:Yf->Us zC:=q8v
theorem q4q:@Eq ((Yf)->Us zC) P89.F q15:=by kernel_rfl
def q8x(A:Wd)(x:zC):Us Ye:=(zb x.2 x.1.1).bind λa=>(zb x.2 x.1.1).bind λb=>(if q (x.1.2.2.1≠0)=g then f (g,x.1,x.2,(0,lit [],0,0),b) else f (q (b.k_≠1),x.1,x.2,(0,lit [],0,0),b)).bind λ(c:Bool×(Int×Int×Int×Int)×Sl q9×(Int×Uq×Int×Int)×q9)=>if c.1=g then(A (20,c.2.1,c.2.2.1)).bind λd=>f ((0,lit [],0,0),d) else f ((5,c.2.2.2.2.T_,0,c.2.2.2.2.a_),(Ut (c.2.1.1+1),c.2.1.2),c.2.2.1)
def q12:zC->Us Ye:=q8x q15
theorem q3a:@Eq ((zC)->Us Ye) P90.F q12:=by delta q12;rw[<-q4q];kernel_rfl
def q8w(A:yc)(B:Wd)(x:xc):Us zC:=(A x).bind λa=>(if(!a.1)=g then(B (20,a.2)).bind λb=>f b else f a.2).bind λb=>f b
def qz:xc->Us zC:=q8w qu q15
theorem q2s:@Eq ((xc)->Us zC) P91.F qz:=by delta qz;rw[<-q1l,<-q4q];kernel_rfl
def q91(A:yc)(B:Y8)(C:WL)(x:zC):Us Zu:=(zb x.2 x.1.1).bind λa=>(zb x.2 x.1.1).bind λb=>(zb x.2 x.1.1).bind λc=>(zb x.2 x.1.1).bind λd=>(A (lit [105,110,116],x)).bind λe=>if e.1=g then f (q7.mk 8 b.T_ 0 d.a_ (O [] N),e.2) else(A (lit [111,119,110],e.2)).bind λi=>(if(!i.1)=g then(B (lit [38],i.2)).bind λj=>(A (lit [109,117,116],j)).bind λl=>(if l.1=g then f (l.2.1,l.2.2,(0,lit [],0,0),8,lit [38,109,117,116],0,d.a_) else f (l.2.1,l.2.2,(0,lit [],0,0),8,b.T_,0,d.a_)).bind λ(m:zlR)=>f m else f (i.2.1,i.2.2,(0,lit [],0,0),8,b.T_,0,d.a_)).bind λ(j:zlR)=>(C (j.1,j.2.1)).bind λl=>f (q7.mk j.2.2.2.1 j.2.2.2.2.1 j.2.2.2.2.2.1 j.2.2.2.2.2.2 (O [q7.mk l.1.1 l.1.2.1 l.1.2.2.1 l.1.2.2.2 (O [] N)] g),l.2)
def q35:zC->Us Zu:=q91 qu qz q12
theorem qj0:@Eq ((zC)->Us Zu) P92.F q35:=by delta q35;rw[<-q1l,<-q2s,<-q3a];kernel_rfl
def q7h(A:Wd)(x:zC):Us Yf:=(zb x.2 x.1.1).bind λa=>(zb x.2 x.1.1).bind λb=>(if q (x.1.2.2.1≠0)=g then f (g,x.1,x.2,b) else f (q (b.k_≠3),x.1,x.2,b)).bind λc=>if c.1=g then(A (20,c.2.1,c.2.2.1)).bind λd=>f (0,d) else f (c.2.2.2.n_,(Ut (c.2.1.1+1),c.2.1.2),c.2.2.1)
def q28:zC->Us Yf:=q7h q15
theorem q8h:@Eq ((zC)->Us Yf) P93.F q28:=by delta q28;rw[<-q4q];kernel_rfl
def q8y(A:yc)(B:ziU)(x:Zu):Us Zu:=(A (lit [43],x.2)).bind λa=>if a.1=g then(B a.2).bind λb=>f (q7.mk x.1.k_ x.1.T_ b.1 x.1.a_ x.1.K_,b.2) else(A (lit [45],a.2)).bind λc=>(if c.1=g then(B c.2).bind λd=>f (d.2.1,d.2.2,q7.mk x.1.k_ x.1.T_ (Ut (0 - d.1)) x.1.a_ x.1.K_,0,lit [],0,0) else f (c.2.1,c.2.2,kr x.1,0,lit [],0,0)).bind λ(d:(Int×Int×Int×Int)×Sl q9×q7×Int×Uq×Int×Int)=>f (kr d.2.2.1,d.1,d.2.1)
def q1z:Zu->Us Zu:=q8y qu q28
theorem qfx:@Eq ((Zu)->Us Zu) P94.F q1z:=by delta q1z;rw[<-q1l,<-q8h];kernel_rfl
def q8z(A:ziU)(B:yc)(C:WL)(D:zu5)(x:zC):Us Zu:=(zb x.2 x.1.1).bind λa=>(zb x.2 x.1.1).bind λb=>(zb x.2 x.1.1).bind λc=>(zb x.2 x.1.1).bind λd=>if q (d.k_=3)=g then(A x).bind λe=>f (q7.mk 5 (lit []) e.1 b.a_ (O [] N),e.2) else(B (lit [45],x)).bind λi=>if i.1=g then(A i.2).bind λj=>f (q7.mk 5 (lit []) (Ut (0 - j.1)) b.a_ (O [] N),j.2) else(C i.2).bind λl=>(D (q7.mk l.1.1 l.1.2.1 l.1.2.2.1 l.1.2.2.2 (O [] N),l.2)).bind λm=>f (kr m.1,m.2)
def q1n:zC->Us Zu:=q8z q28 qu q12 q1z
theorem q77:@Eq ((zC)->Us Zu) P95.F q1n:=by delta q1n;rw[<-q8h,<-q1l,<-q3a,<-qfx];kernel_rfl
def q73(A:yc)(B:Wd):zpx->Us (Step zpx zva):=λa=>if q (a.1 < Sl.len a.2.2.2)=g then(zb a.2.2.2 a.1).bind λb=>(zb a.2.2.2 a.1).bind λc=>(A (c,a.2.1,a.2.2.1)).bind λd=>if d.1=g then(zb a.2.2.2 a.1).bind λe=>(zb a.2.2.2 a.1).bind λi=>f (Step.done (y (i,d.2))) else f (Step.next (Ut (a.1+1),d.2.1,d.2.2,a.2.2.2)) else f (Step.done (M (a.2.1,a.2.2.1)))
def qa1(A:yc)(B:Wd)(x:zC):Us xc:=(lpO (q73 A B) (0,x.1,x.2,O [lit [60],lit [60,61],lit [61,61]] g)).bind λa=>F (λb=>f b) (λb=>(B (20,b)).bind λc=>f (lit [],c)) a
def q62:zC->Us xc:=qa1 qu q15
theorem qjp:@Eq ((zC)->Us xc) P96.F q62:=by delta q62;rw[<-q1l,<-q4q];kernel_rfl
def q6j(A:wg)(B:zC->Us xc)(x:zC):Us ZI:=(A x).bind λa=>(B a.2).bind λb=>(A b.2).bind λc=>f ((4,b.1,0,a.1.a_),c.2.1,c.2.2,O [kr a.1,kr c.1] g)
def q1o:Yw:=q6j q1n q62
theorem qfy:@Eq Yw P97.F q1o:=by delta q1o;rw[<-q77,<-qjp];kernel_rfl
def q59(A:Y8)(B:yc)(C:wg):zpJ->Us (Step zpJ zam):=λa=>(B (lit [44],a.1,a.2.1)).bind λb=>if(!b.1)=g then f (Step.done (b.2.1,b.2.2,a.2.2.2)) else(C b.2).bind λc=>(zp 64 a.2.2.2 [kr c.1]).bind λd=>f (Step.next (c.2.1,c.2.2,kr c.1,d))
def q90(A:Y8)(B:yc)(C:wg)(x:zC):Us zam:=(A (lit [40],x)).bind λa=>(B (lit [41],a)).bind λb=>(if b.1=g then f (g,b.2) else f (q (b.2.1.2.2.1≠0),b.2)).bind λc=>if c.1=g then f (c.2.1,c.2.2,O [] N) else(C c.2).bind λd=>(lpO (q59 A B C) (d.2.1,d.2.2,kr d.1,O [kr d.1] g)).bind λe=>(A (lit [41],e.1,e.2.1)).bind λi=>f (i.1,i.2,e.2.2)
def q34:zC->Us zam:=q90 qz qu q1n
theorem qct:@Eq ((zC)->Us zam) P98.F q34:=by delta q34;rw[<-q2s,<-q1l,<-q77];kernel_rfl
def q92(A:yc)(B:ziU)(C:WL)(D:wg)(E:yc)(G:zpg)(H:Y8)(I:zu5)(x:zC):Us Zu:=(zb x.2 x.1.1).bind λa=>(zb x.2 x.1.1).bind λb=>(A (lit [110,101,119],x)).bind λc=>if c.1=g then(B c.2).bind λd=>f (q7.mk 23 (lit []) d.1 b.a_ (O [] N),d.2) else(A (lit [97,114,114,97,121],c.2)).bind λe=>if e.1=g then(C e.2).bind λi=>f (q7.mk 24 i.1.2.1 0 b.a_ (O [] N),i.2) else(A (lit [38],e.2)).bind λj=>if j.1=g then(A (lit [109,117,116],j.2)).bind λl=>(if l.1=g then f (l.2.1,l.2.2,(0,lit [],0,0),27,lit [],0,b.a_) else f (l.2.1,l.2.2,(0,lit [],0,0),26,lit [],0,b.a_)).bind λ(m:zlR)=>(C (m.1,m.2.1)).bind λn=>f (q7.mk m.2.2.2.1 n.1.2.1 m.2.2.2.2.2.1 m.2.2.2.2.2.2 (O [] N),n.2) else(zb j.2.2 j.2.1.1).bind λo=>(zb j.2.2 j.2.1.1).bind λp=>if q (p.k_≠1)=g then(D j.2).bind λr=>f (kr r.1,r.2) else(C j.2).bind λs=>(E (lit [40],s.2)).bind λt=>if t.1=g then(G t.2).bind λu=>f (q7.mk 28 s.1.2.1 s.1.2.2.1 s.1.2.2.2 u.2.2,u.1,u.2.1) else(A (lit [91],t.2)).bind λv=>if v.1=g then(D v.2).bind λw=>(H (lit [93],w.2)).bind λz=>f (q7.mk 25 s.1.2.1 s.1.2.2.1 s.1.2.2.2 (O [kr w.1] g),z) else(E (lit [43],v.2)).bind λJ=>(E (lit [45],J.2)).bind λK=>(if J.1=g then(zb K.2.2 (Ut (K.2.1.1+1))).bind λL=>(zb K.2.2 (Ut (K.2.1.1+1))).bind λP=>f (K.1,q (P.k_=1),K.2.1,K.2.2,(0,lit [],0,0),s.1) else if K.1=g then(zb K.2.2 (Ut (K.2.1.1+1))).bind λQ=>(zb K.2.2 (Ut (K.2.1.1+1))).bind λR=>f (K.1,q (R.k_=1),K.2.1,K.2.2,(0,lit [],0,0),s.1) else f (K.1,N,K.2.1,K.2.2,(0,lit [],0,0),s.1)).bind λ(L:Bool×Bool×(Int×Int×Int×Int)×Sl q9×(Int×Uq×Int×Int)×Int×Uq×Int×Int)=>if L.2.1=g then(C ((Ut (L.2.2.1.1+1),L.2.2.1.2),L.2.2.2.1)).bind λP=>(if L.1=g then f (P.2.1,P.2.2,L.2.2.2.2.1,(22,lit [],0,L.2.2.2.2.2.2.2.2),O [q7.mk L.2.2.2.2.2.1 L.2.2.2.2.2.2.1 L.2.2.2.2.2.2.2.1 L.2.2.2.2.2.2.2.2 (O [] N),q7.mk P.1.1 P.1.2.1 P.1.2.2.1 P.1.2.2.2 (O [] N)] g) else f (P.2.1,P.2.2,L.2.2.2.2.1,(21,lit [],0,L.2.2.2.2.2.2.2.2),O [q7.mk L.2.2.2.2.2.1 L.2.2.2.2.2.2.1 L.2.2.2.2.2.2.2.1 L.2.2.2.2.2.2.2.2 (O [] N),q7.mk P.1.1 P.1.2.1 P.1.2.2.1 P.1.2.2.2 (O [] N)] g)).bind λ(Q:xD)=>f (q7.mk Q.2.2.2.1.1 Q.2.2.2.1.2.1 Q.2.2.2.1.2.2.1 Q.2.2.2.1.2.2.2 Q.2.2.2.2,Q.1,Q.2.1) else(I (q7.mk L.2.2.2.2.2.1 L.2.2.2.2.2.2.1 L.2.2.2.2.2.2.2.1 L.2.2.2.2.2.2.2.2 (O [] N),L.2.2.1,L.2.2.2.1)).bind λR=>f (kr R.1,R.2)
def q5p:zC->Us Zu:=q92 qu q28 q12 q1n q1j q34 qz q1z
theorem qj1:@Eq ((zC)->Us Zu) P99.F q5p:=by delta q5p;rw[<-q1l,<-q8h,<-q3a,<-q77,<-q6z,<-qct,<-q2s,<-qfx];kernel_rfl
def qbe(A:WL)(B:yc)(C:zpg)(D:yc)(E:wg)(G:Y8)(H:wg)(x:zC):Us ZI:=(A x).bind λa=>(B (lit [40],a.2)).bind λb=>if b.1=g then(C b.2).bind λc=>f ((20,lit [],0,a.1.2.2.2),c.1,c.2.1,O [q7.mk 28 a.1.2.1 a.1.2.2.1 a.1.2.2.2 c.2.2] g) else(D (lit [91],b.2)).bind λd=>if d.1=g then(E d.2).bind λe=>(G (lit [93],e.2)).bind λi=>(G (lit [61],i)).bind λj=>(E j).bind λl=>f ((11,a.1.2),l.2.1,l.2.2,O [kr e.1,kr l.1] g) else(G (lit [61],d.2)).bind λm=>(H m).bind λn=>f ((10,a.1.2),n.2.1,n.2.2,O [kr n.1] g)
def q6k:Yw:=qbe q12 q1j q34 qu q1n qz q5p
theorem qic:@Eq Yw zoa.F q6k:=by delta q6k;rw[<-q3a,<-q6z,<-qct,<-q1l,<-q77,<-q2s,<-qj1];kernel_rfl
def q4g(A:Wc)(B:Wc)(x:zd8):Us ZI:=(A x.2.2).bind λa=>(B (a.2.1,a.2.2.1)).bind λb=>(zp 64 a.2.2.2 [q7.mk b.1.1 b.1.2.1 b.1.2.2.1 b.1.2.2.2 b.2.2.2]).bind λc=>f ((x.1,a.1.2.1,a.1.2.2.1,x.2.1),b.2.1,b.2.2.1,c)
def q1p(h:Yw):zd8->Us ZI:=q4g q1o h
theorem qe4(h:Yw):@Eq ((zd8)->Us ZI) (ziC h) (q1p h):=by delta q1p;rw[<-qfy];kernel_rfl
def q6l(A:zd8->Us ZI)(B:yc)(C:Wc)(D:WL)(E:Y8)(G:ziU)(H:yc)(I:wg)(J:zpg)(K:Wc)(x:zC):Us ZI:=(zb x.2 x.1.1).bind λa=>(zb x.2 x.1.1).bind λb=>(zb x.2 x.1.1).bind λc=>(zb x.2 x.1.1).bind λd=>(if q (d.k_=2)=g then(zb x.2 x.1.1).bind λe=>(zb x.2 x.1.1).bind λi=>f (b.a_,i.T_,x.1,x.2,0,lit [],0,0) else f (b.a_,lit [],x.1,x.2,0,lit [],0,0)).bind λ(e:Int×Uq×(Int×Int×Int×Int)×Sl q9×Int×Uq×Int×Int)=>(if q (e.2.1=lit [105,102])=g then(A (15,e.1,(Ut (e.2.2.1.1+1),e.2.2.1.2),e.2.2.2.1)).bind λi=>(B (lit [101,108,115,101],i.2.1,i.2.2.1)).bind λj=>(if j.1=g then(C j.2).bind λl=>f (l.2.1,l.2.2.1,e.2.2.2.2,i.1,l.1,i.2.2.2,l.2.2.2) else f (j.2.1,j.2.2,e.2.2.2.2,i.1,(9,lit [],0,e.1),i.2.2.2,O [] N)).bind λ(l:(Int×Int×Int×Int)×Sl q9×(Int×Uq×Int×Int)×(Int×Uq×Int×Int)×(Int×Uq×Int×Int)×Sl q7×Sl q7)=>(zp 64 l.2.2.2.2.2.1 [q7.mk l.2.2.2.2.1.1 l.2.2.2.2.1.2.1 l.2.2.2.2.1.2.2.1 l.2.2.2.2.1.2.2.2 l.2.2.2.2.2.2]).bind λm=>f (y (l.1,l.2.1,l.2.2.2.1,m)) else if q (e.2.1=lit [119,104,105,108,101])=g then(A (16,e.1,(Ut (e.2.2.1.1+1),e.2.2.1.2),e.2.2.2.1)).bind λn=>f (y (n.2.1,n.2.2.1,n.1,n.2.2.2)) else(if q (e.2.1=lit [102,114,101,101])=g then(D ((Ut (e.2.2.1.1+1),e.2.2.1.2),e.2.2.2.1)).bind λo=>f (o.2.1,o.2.2,e.2.2.2.2,(12,o.1.2.1,0,e.1),O [] N) else(if q (e.2.1=lit [108,111,99,107])=g then f (e.2.1,e.2.1,q (e.2.1=lit [108,111,99,107]),e.2.2.1,e.2.2.2.1,e.2.2.2.2,0,lit [],0,e.1) else f (e.2.1,e.2.1,q (e.2.1=lit [117,110,108,111,99,107]),e.2.2.1,e.2.2.2.1,e.2.2.2.2,0,lit [],0,e.1)).bind λ(p:Uq×Uq×Bool×(Int×Int×Int×Int)×Sl q9×(Int×Uq×Int×Int)×Int×Uq×Int×Int)=>(if p.2.2.1=g then(D ((Ut (p.2.2.2.1.1+1),p.2.2.2.1.2),p.2.2.2.2.1)).bind λr=>(if q (p.1=lit [117,110,108,111,99,107])=g then f (r.2.1,r.2.2,p.2.2.2.2.2.1,(14,p.2.2.2.2.2.2.2),r.1) else f (r.2.1,r.2.2,p.2.2.2.2.2.1,(13,p.2.2.2.2.2.2.2),r.1)).bind λ(s:(Int×Int×Int×Int)×Sl q9×(Int×Uq×Int×Int)×(Int×Uq×Int×Int)×Int×Uq×Int×Int)=>(E (lit [91],s.1,s.2.1)).bind λt=>(G t).bind λu=>(E (lit [93],u.2)).bind λv=>f (v.1,v.2,s.2.2.1,(s.2.2.2.1.1,s.2.2.2.2.2.1,u.1,s.2.2.2.1.2.2.2),O [] N) else(if q (p.2.1=lit [114,101,116,117,114,110])=g then(H (lit [59],(Ut (p.2.2.2.1.1+1),p.2.2.2.1.2),p.2.2.2.2.1)).bind λw=>(if(!w.1)=g then(I w.2).bind λz=>f (z.2.1,z.2.2,p.2.2.2.2.2.1,(17,p.2.2.2.2.2.2.2),O [kr z.1] g) else f (w.2.1,w.2.2,p.2.2.2.2.2.1,(17,p.2.2.2.2.2.2.2),O [] N)).bind λ(z:xD)=>f z else(if q (p.2.1=lit [97,98,111,114,116])=g then f ((Ut (p.2.2.2.1.1+1),p.2.2.2.1.2),p.2.2.2.2.1,p.2.2.2.2.2.1,(18,p.2.2.2.2.2.2.2),O [] N) else(if q (p.2.1=lit [102,111,114,107])=g then(D ((Ut (p.2.2.2.1.1+1),p.2.2.2.1.2),p.2.2.2.2.1)).bind λL=>(J L.2).bind λP=>f (P.1,P.2.1,p.2.2.2.2.2.1,(19,L.1.2.1,p.2.2.2.2.2.2.2.2),P.2.2) else(K (p.2.2.2.1,p.2.2.2.2.1)).bind λQ=>f (Q.2.1,Q.2.2.1,p.2.2.2.2.2.1,Q.1,Q.2.2.2)).bind λ(L:xD)=>f L).bind λ(L:xD)=>f L).bind λ(w:xD)=>f w).bind λ(r:xD)=>f r).bind λ(o:xD)=>f (M o)).bind λ(i:(Int×Int×Int×Int)×Sl q9×(Int×Uq×Int×Int)×Sl q7⊕(Int×Int×Int×Int)×Sl q9×(Int×Uq×Int×Int)×(Int×Uq×Int×Int)×Sl q7)=>F (λj=>f (j.2.2.1,j.1,j.2.1,j.2.2.2)) (λj=>(E (lit [59],j.1,j.2.1)).bind λl=>f (j.2.2.2.1,l.1,l.2,j.2.2.2.2)) i
def q2u(h:Yw):Yw:=q6l (q1p h) qu h q12 qz q28 q1j q1n q34 q6k
theorem qfb(h:Yw):@Eq Yw (ziD h) (q2u h):=by delta q2u;rw[<-qe4 h,<-q1l,<-q3a,<-q2s,<-q8h,<-q6z,<-q77,<-qct,<-qic];kernel_rfl
def q45(A:yc)(B:Wd)(C:Y8)(D:yc)(E:Wc):xD->Us (Step xD xD):=λa=>if q (a.1.2.2.1=0)=g then(D (lit [125],a.1,a.2.1)).bind λb=>if b.1=g then f (Step.done (b.2.1,b.2.2,a.2.2)) else(E b.2).bind λc=>(zp 64 a.2.2.2.2 [q7.mk c.1.1 c.1.2.1 c.1.2.2.1 c.1.2.2.2 c.2.2.2]).bind λd=>f (Step.next (c.2.1,c.2.2.1,a.2.2.1,a.2.2.2.1,d)) else f (Step.done a)
def q29(A:yc)(B:Wd)(C:Y8)(D:yc)(E:Wc)(x:zC):Us ZI:=(zb x.2 x.1.1).bind λa=>(zb x.2 x.1.1).bind λb=>(A (lit [123],x)).bind λc=>(if c.1=g then f (q (8<=c.2.1.2.1),c.2.1,c.2.2,(0,lit [],0,0),9,lit [],0,b.a_) else f (N,c.2.1,c.2.2,(0,lit [],0,0),9,lit [],0,b.a_)).bind λd=>(if d.1=g then(B (21,d.2.1,d.2.2.1)).bind λe=>f (e.1,e.2,d.2.2.2) else f d.2).bind λe=>(C (lit [123],e.1,e.2.1)).bind λi=>(lpO (q45 A B C D E) ((i.1.1,Ut (i.1.2.1+1),i.1.2.2),i.2,e.2.2.1,e.2.2.2,O [] N)).bind λj=>f (j.2.2.2.1,(j.1.1,Ut (j.1.2.1 - 1),j.1.2.2),j.2.1,j.2.2.2.2)
def q8i(h:Yw):Yw:=q29 q1j q15 qz qu (q2u h)
theorem qhq(h:Yw):@Eq Yw (ziE h) (q8i h):=by delta q8i;rw[<-q6z,<-q4q,<-q2s,<-q1l,<-qfb h];kernel_rfl
def q44:Nat->zC->Us ZI
  |0=>λ_=>W
  |k+1=>q8i (q44 k)
theorem q8j:∀k,@Eq Yw (zf1 k) (q44 k)
  |0=>rfl
  |k+1=>(qhq (zf1 k)).trans (congrArg q8i (q8j k))
def q5a:Yw:=q44 100000
theorem qid:@Eq Yw zx8 q5a:=q8j 100000
def qam(A:WL)(B:Y8)(C:yc)(D:wg)(E:yc)(G:Wd)(H:Wc):VM->Us (Step VM xD):=λa=>(if(!a.1)=g then f (a.1,q (a.2.1.2.2.1=0),a.2) else f (a.1,N,a.2)).bind λ(b:Bool×Bool×(Int×Int×Int×Int)×Sl q9×(Int×Uq×Int×Int)×(Int×Uq×Int×Int)×Sl q7)=>if b.2.1=g then(A (b.2.2.1,b.2.2.2.1)).bind λc=>(B (lit [58],c.2)).bind λd=>(D d).bind λe=>(zp 64 b.2.2.2.2.2.2 [q7.mk 7 c.1.2.1 c.1.2.2.1 c.1.2.2.2 (O [kr e.1] g)]).bind λi=>(C (lit [44],e.2)).bind λj=>(if(!j.1)=g then(B (lit [41],j.2)).bind λl=>f (g,l.1,l.2,b.2.2.2.2.1,b.2.2.2.2.2.1,i) else f (b.1,j.2.1,j.2.2,b.2.2.2.2.1,b.2.2.2.2.2.1,i)).bind λ(l:VM)=>f (Step.next l) else f (Step.done b.2.2)
def qd5(A:WL)(B:Y8)(C:yc)(D:wg)(E:yc)(G:Wd)(H:Wc)(x:Yf):Us ZI:=(A x.2).bind λa=>(B (lit [40],a.2)).bind λb=>(C (lit [41],b)).bind λc=>(lpO (qam A B C D E G H) (c.1,c.2.1,c.2.2,(0,lit [],0,0),(6,a.1.2.1,a.1.2.2.1,x.1),O [] N)).bind λd=>(zb d.2.1 d.1.1).bind λe=>(zb d.2.1 d.1.1).bind λi=>(C (lit [45,62],d.1,d.2.1)).bind λj=>(if j.1=g then(E (lit [38],j.2)).bind λl=>(if l.1=g then(G (20,l.2)).bind λm=>f (m.1,m.2,d.2.2.1,d.2.2.2.1,(8,lit [],0,i.a_),d.2.2.2.2) else f (l.2.1,l.2.2,d.2.2.1,d.2.2.2.1,(8,lit [],0,i.a_),d.2.2.2.2)).bind λ(m:(Int×Int×Int×Int)×Sl q9×(Int×Uq×Int×Int)×(Int×Uq×Int×Int)×(Int×Uq×Int×Int)×Sl q7)=>(D (m.1,m.2.1)).bind λn=>f (n.2.1,n.2.2,m.2.2.1,m.2.2.2.1,kr n.1,m.2.2.2.2.2) else f (j.2.1,j.2.2,d.2.2.1,d.2.2.2.1,q7.mk 8 (lit []) 0 i.a_ (O [] N),d.2.2.2.2)).bind λ(l:(Int×Int×Int×Int)×Sl q9×(Int×Uq×Int×Int)×(Int×Uq×Int×Int)×q7×Sl q7)=>(H (l.1,l.2.1)).bind λm=>(zp 64 l.2.2.2.2.2 [kr l.2.2.2.2.1]).bind λn=>(zp 64 n [q7.mk m.1.1 m.1.2.1 m.1.2.2.1 m.1.2.2.2 m.2.2.2]).bind λo=>f (l.2.2.2.1,m.2.1,m.2.2.1,o)
def q6m:Yf->Us ZI:=qd5 q12 qz qu q35 q1j q15 q5a
theorem qk8:@Eq ((Yf)->Us ZI) zsM.F q6m:=by delta q6m;rw[<-q3a,<-q2s,<-q1l,<-qj0,<-q6z,<-q4q,<-qid];kernel_rfl
def q3p(A:yc)(B:WL)(C:Wd):zur->Us (Step zur tA6):=λa=>if q (a.1 < Sl.len a.2.2.2.2.2)=g then(zb a.2.2.2.2.2 a.1).bind λb=>(zb a.2.2.2.2.2 a.1).bind λc=>(A (c,a.2.1,a.2.2.1)).bind λd=>if d.1=g then(B d.2).bind λe=>f (Step.done (y (e.2.1,e.2.2,a.2.2.2.2.1,O [q7.mk e.1.1 e.1.2.1 e.1.2.2.1 e.1.2.2.2 (O [] N)] g))) else f (Step.next (Ut (a.1+1),d.2.1,d.2.2,a.2.2.2)) else f (Step.done (M (a.2.1,a.2.2.1,a.2.2.2.1,a.2.2.2.2.1)))
def q93(A:yc)(B:WL)(C:Wd)(x:zC):Us Zu:=(zb x.2 x.1.1).bind λa=>(zb x.2 x.1.1).bind λb=>(zb x.2 x.1.1).bind λc=>(zb x.2 x.1.1).bind λd=>(A (lit [111,119,110],x)).bind λe=>if e.1=g then f (q7.mk 2 b.T_ 0 d.a_ (O [] N),e.2) else(A (lit [99,101,108,108],e.2)).bind λi=>if i.1=g then f (q7.mk 2 b.T_ 0 d.a_ (O [] N),i.2) else(lpO (q3p A B C) (0,i.2.1,i.2.2,(0,lit [],0,0),(2,b.T_,0,d.a_),O [lit [99,111,117,110,116,101,100],lit [108,111,99,107],lit [103,117,97,114,100]] g)).bind λj=>F (λl=>f (q7.mk l.2.2.1.1 l.2.2.1.2.1 l.2.2.1.2.2.1 l.2.2.1.2.2.2 l.2.2.2,l.1,l.2.1)) (λl=>(C (20,l.1,l.2.1)).bind λm=>f (q7.mk l.2.2.2.1 l.2.2.2.2.1 l.2.2.2.2.2.1 l.2.2.2.2.2.2 (O [] N),m)) j
def q3y:zC->Us Zu:=q93 qu q12 q15
theorem qj3:@Eq ((zC)->Us Zu) zsN.F q3y:=by delta q3y;rw[<-q1l,<-q3a,<-q4q];kernel_rfl
def qbf(A:WL)(B:yc)(C:Y8)(x:zC):Us ZI:=(A x).bind λa=>(B (lit [91],a.2)).bind λb=>(if b.1=g then(A b.2).bind λc=>(C (lit [93],c.2)).bind λd=>f (d.1,d.2,(0,lit [],0,0),(3,a.1.2),O [q7.mk c.1.1 c.1.2.1 c.1.2.2.1 c.1.2.2.2 (O [] N)] g) else f (b.2.1,b.2.2,(0,lit [],0,0),(3,a.1.2),O [] N)).bind λ(c:xD)=>f (c.2.2.2.1,c.1,c.2.1,c.2.2.2.2)
def q3q:Yw:=qbf q12 qu qz
theorem qie:@Eq Yw zsO.F q3q:=by delta q3q;rw[<-q3a,<-q1l,<-q2s];kernel_rfl
def qch(A:WL)(B:wg)(C:yc)(D:Wc)(E:Y8)(G:Wc):VM->Us (Step VM xD):=λa=>if a.1=g then(D (a.2.1,a.2.2.1)).bind λb=>(zp 64 a.2.2.2.2.2 [q7.mk b.1.1 b.1.2.1 b.1.2.2.1 b.1.2.2.2 b.2.2.2]).bind λc=>(C (lit [44],b.2.1,b.2.2.1)).bind λd=>(if(!d.1)=g then(E (lit [125],d.2)).bind λe=>f (d.1,e.1,e.2,a.2.2.2.1,a.2.2.2.2.1,c) else f (d.1,d.2.1,d.2.2,a.2.2.2.1,a.2.2.2.2.1,c)).bind λe=>f (Step.next e) else f (Step.done a.2)
def qci(A:WL)(B:wg)(C:yc)(D:Wc)(E:Y8)(G:Wc):VM->Us (Step VM xD):=λa=>if a.1=g then(G (a.2.1,a.2.2.1)).bind λb=>(zp 64 a.2.2.2.2.2 [q7.mk b.1.1 b.1.2.1 b.1.2.2.1 b.1.2.2.2 b.2.2.2]).bind λc=>(C (lit [44],b.2.1,b.2.2.1)).bind λd=>f (Step.next (d.1,d.2.1,d.2.2,a.2.2.2.1,a.2.2.2.2.1,c)) else f (Step.done a.2)
def qcj(A:WL)(B:wg)(C:yc)(D:Wc)(E:Y8)(G:Wc)(x:Yf):Us ZI:=(A x.2).bind λa=>(B a.2).bind λb=>(C (lit [123],b.2)).bind λc=>(lpO (qch A B C D E G) (c.1,c.2.1,c.2.2,(0,lit [],0,0),(1,a.1.2.1,a.1.2.2.1,x.1),O [kr b.1] g)).bind λd=>(C (lit [119,104,101,114,101],d.1,d.2.1)).bind λe=>(lpO (qci A B C D E G) (e.1,e.2.1,e.2.2,d.2.2)).bind λi=>(E (lit [59],i.1,i.2.1)).bind λj=>f (i.2.2.2.1,j.1,j.2,i.2.2.2.2)
def q63:Yf->Us ZI:=qcj q12 q3y qu q3q qz q1o
theorem qjq:@Eq ((Yf)->Us ZI) zsP.F q63:=by delta q63;rw[<-q3a,<-qj3,<-q1l,<-qie,<-q2s,<-qfy];kernel_rfl
def q6n(A:XW):Int×Int×q7->Us (Step (Int×Int×q7) Int):=λa=>if q (a.2.1 < a.2.2.K_.len)=g then(zb a.2.2.K_ a.2.1).bind λb=>(A (kr b)).bind λc=>f (Step.next (Ut (a.1+c),Ut (a.2.1+1),kr a.2.2)) else f (Step.done a.1)
def q9m(A:XW)(x:q7):GQ:=(lpO (q6n A) (1,0,kr x)).bind λa=>f a
def q9n(h:XW):XW:=q9m h
theorem qif(h:XW):@Eq XW (ziF h) (q9n h):=by kernel_rfl
def q2v:Nat->q7->Us Int
  |0=>λ_=>W
  |k+1=>q9n (q2v k)
theorem qfc:∀k,@Eq XW (zf2 k) (q2v k)
  |0=>rfl
  |k+1=>(qif (zf2 k)).trans (congrArg q9n (qfc k))
def qa2:XW:=q2v 100000
theorem qj4:@Eq XW zyb qa2:=qfc 100000
def q82(A:zjc)(B:yc)(C:zo5)(D:Y8)(E:zo5)(G:XW):zfs->Us (Step zfs zfs):=λa=>(if q (a.2.1.2.2.1=0)=g then(zb a.2.2.2.1 a.2.1.1).bind λb=>(zb a.2.2.2.1 a.2.1.1).bind λc=>f (q (c.k_≠0),a) else f (N,a)).bind λb=>if b.1=g then((zb b.2.2.2.2.1 b.2.2.1.1).bind λc=>(zb b.2.2.2.2.1 b.2.2.1.1).bind λd=>(B (lit [102,110],b.2.2.1,b.2.2.2.2.1)).bind λe=>if e.1=g then(C (d.a_,e.2)).bind λi=>(zp 64 b.2.2.2.2.2 [q7.mk i.1.1 i.1.2.1 i.1.2.2.1 i.1.2.2.2 i.2.2.2]).bind λj=>f (b.2.1,i.2.1,b.2.2.2.1,i.2.2.1,j) else(D (lit [116,121,112,101],e.2)).bind λl=>(if q (l.1.2.2.1=0)=g then(E (d.a_,l)).bind λm=>(zp 64 b.2.2.2.2.2 [q7.mk m.1.1 m.1.2.1 m.1.2.2.1 m.1.2.2.2 m.2.2.2]).bind λn=>f (b.2.1,m.2.1,b.2.2.2.1,m.2.2.1,n) else f (b.2.1,l.1,b.2.2.2.1,l.2,b.2.2.2.2.2)).bind λm=>f m).bind λc=>f (Step.next c) else f (Step.done b.2)
def qbg(A:zjc)(B:yc)(C:zo5)(D:Y8)(E:zo5)(G:XW)(x:Zq):Us (q7×zP):=(A x).bind λa=>if q (a.2.1≠0)=g then f (q7.mk 0 (lit []) 0 0 (O [] N),a.1,a.2.1) else(lpO (q82 A B C D E G) ((0,lit [],0,0),(0,0,0,0),(0,lit [],0,0),a.2.2,O [] N)).bind λb=>if q (b.2.1.2.2.1≠0)=g then f (q7.mk 0 (lit []) 0 0 (O [] N),b.2.1.2.2.2,b.2.1.2.2.1) else(G (q7.mk b.2.2.1.1 b.2.2.1.2.1 b.2.2.1.2.2.1 b.2.2.1.2.2.2 b.2.2.2.2)).bind λc=>if q (4096 < c)=g then f (q7.mk 0 (lit []) 0 0 (O [] N),0,22) else f (q7.mk b.2.2.1.1 b.2.2.1.2.1 b.2.2.1.2.2.1 b.2.2.1.2.2.2 b.2.2.2.2,0,0)
def q24:zed:=qbg q69 qu q6m qz q63 qa2
theorem qc6:@Eq zed zoc.F q24:=by delta q24;rw[<-qhp,<-q1l,<-qk8,<-q2s,<-qjq,<-qj4];kernel_rfl
def q6p:zjx->Us (Step zjx GO):=λa=>if q (a.2.1 < a.2.2.1.K_.len)=g then(zb a.2.2.1.K_ a.2.1).bind λb=>(if q (b.k_=a.1)=g then(zb a.2.2.1.K_ a.2.1).bind λc=>(zp 64 a.2.2.2 [kr c]).bind λd=>f (a.1,a.2.1,kr a.2.2.1,d) else f (a.1,a.2.1,kr a.2.2.1,a.2.2.2)).bind λc=>f (Step.next (c.1,Ut (c.2.1+1),kr c.2.2.1,c.2.2.2)) else f (Step.done a.2.2.2)
def q94(x:q7×Int):Us GO:=(lpO q6p (x.2,0,kr x.1,O [] N)).bind λa=>f a
def q1c:zek:=q94
theorem qj5:@Eq ((q7×Int)->Us (Sl q7)) zod.F q1c:=by kernel_rfl
def q5c:zp7->Us (Step zp7 zes):=λa=>if q (a.2.2 < Sl.len a.1)=g then(zb a.1 a.2.2).bind λb=>if q (b.N_=a.2.1)=g then f (Step.done (y a.2.2)) else f (Step.next (a.1,a.2.1,Ut (a.2.2+1))) else f (Step.done (M ()))
def qc3(x:zjD):GQ:=(lpO q5c (x.1,x.2,0)).bind λa=>F (λb=>f b) (λb=>f (-1)) a
def q16:zjD->GQ:=qc3
theorem qcu:@Eq ((zjD)->Us Int) zhg.F q16:=by kernel_rfl
def q4h:zp8->Us (Step zp8 zes):=λa=>if q (a.2.2 < Sl.len a.1)=g then((zb a.1 a.2.2).bind λb=>if q (b.T_=a.2.1)=g then(zb a.1 a.2.2).bind λc=>f (a.1,a.2.1,a.2.2,q (c.K_.len=0)) else f (a.1,a.2.1,a.2.2,N)).bind λb=>if b.2.2.2=g then f (Step.done (y b.2.2.1)) else f (Step.next (b.1,b.2.1,Ut (b.2.2.1+1))) else f (Step.done (M ()))
def qar(x:zjE):GQ:=(lpO q4h (x.1,x.2,0)).bind λa=>F (λb=>f b) (λb=>f (-1)) a
def q1b:zjE->GQ:=qar
theorem qhs:@Eq ((zjE)->Us Int) zoe.F q1b:=by kernel_rfl
def q84(x:zao):Us (Sl qq):=(if q (x.1=lit [60])=g then f (x.1,x.2.1,x.2.2.1,x.2.2.2.1,x.2.2.2.2,O ([]++[qq.mk x.2.1 x.2.2.1 (Ut (Ut (x.2.2.2.2 - x.2.2.2.1) - 1))]) (N || ![qq.mk x.2.1 x.2.2.1 (Ut (Ut (x.2.2.2.2 - x.2.2.2.1) - 1))].isEmpty)) else f (x.1,x.2.1,x.2.2.1,x.2.2.2.1,x.2.2.2.2,O [] N)).bind λa=>(if q (a.1=lit [60,61])=g then f (a.1,a.2.1,a.2.2.1,a.2.2.2.1,a.2.2.2.2.1,g,a.2.2.2.2.2) else f (a.1,a.2.1,a.2.2.1,a.2.2.2.1,a.2.2.2.2.1,q (a.1=lit [61,61]),a.2.2.2.2.2)).bind λb=>(if b.2.2.2.2.2.1=g then(zp 24 b.2.2.2.2.2.2 [qq.mk b.2.1 b.2.2.1 (Ut (b.2.2.2.2.1 - b.2.2.2.1))]).bind λc=>f (b.1,b.2.1,b.2.2.1,b.2.2.2.1,b.2.2.2.2.1,c) else f (b.1,b.2.1,b.2.2.1,b.2.2.2.1,b.2.2.2.2.1,b.2.2.2.2.2.2)).bind λc=>(if q (c.1=lit [61,61])=g then(zp 24 c.2.2.2.2.2 [qq.mk c.2.2.1 c.2.1 (Ut (c.2.2.2.1 - c.2.2.2.2.1))]).bind λd=>f d else f c.2.2.2.2.2).bind λd=>f d
def q1a:zao->Us (Sl qq):=q84
theorem qig:@Eq ((zao)->Us (Sl qq)) zof.F q1a:=by kernel_rfl
def q5q(A:zek)(B:vE)(C:zef)(D:zd5):zpa->Us (Step zpa zzt):=λa=>if q (a.2.1 < a.1)=g then(zb a.2.2.2.2.1 a.2.1).bind λb=>(zb a.2.2.2.2.1 a.2.1).bind λc=>if q (c.T_=a.2.2.2.2.2.2.2.2.1.T_)=g then f (Step.done (y (a.2.2.2.2.2.2.2.2.1.a_,30,a.2.2.1,a.2.2.2.2.2.2.2.1,a.2.2.2.2.2.2.2.2.2))) else f (Step.next (a.1,Ut (a.2.1+1),a.2.2.1,a.2.2.2.1,a.2.2.2.2.1,a.2.2.2.2.2.1,kr a.2.2.2.2.2.2.1,a.2.2.2.2.2.2.2.1,kr a.2.2.2.2.2.2.2.2.1,a.2.2.2.2.2.2.2.2.2)) else f (Step.done (M (a.1,a.2.2.1,a.2.2.2.1,a.2.2.2.2.1,a.2.2.2.2.2.1,kr a.2.2.2.2.2.2.1,a.2.2.2.2.2.2.2.1,kr a.2.2.2.2.2.2.2.2.1,a.2.2.2.2.2.2.2.2.2)))
def q4m(A:zek)(B:vE)(C:zef)(D:zd5):zpc->Us (Step zpc zzy):=λa=>if q (a.1 < Sl.len a.2.2.2.1)=g then((zb a.2.2.2.1 a.1).bind λb=>(zb a.2.2.2.1 a.1).bind λc=>(lpO (q5q A B C D) (a.1,0,a.2.1,a.2.2.1,a.2.2.2.1,a.2.2.2.2.1,kr a.2.2.2.2.2.1,a.2.2.2.2.2.2.1,kr c,a.2.2.2.2.2.2.2)).bind λd=>F (λe=>f (y e)) (λe=>(if q (0 < e.2.2.2.2.2.2.2.1.K_.len)=g then(zb e.2.2.2.2.2.2.2.1.K_ 0).bind λi=>(C (e.2.2.2.1,i.T_)).bind λj=>(if q (e.2.2.2.2.2.1.T_≠lit [111,119,110])=g then f (e.1,j,g,e.2.1,e.2.2.1,e.2.2.2.1,e.2.2.2.2.1,kr e.2.2.2.2.2.1,e.2.2.2.2.2.2.1,kr e.2.2.2.2.2.2.2.1,e.2.2.2.2.2.2.2.2) else f (e.1,j,q (j < 0),e.2.1,e.2.2.1,e.2.2.2.1,e.2.2.2.2.1,kr e.2.2.2.2.2.1,e.2.2.2.2.2.2.1,kr e.2.2.2.2.2.2.2.1,e.2.2.2.2.2.2.2.2)).bind λl=>if l.2.2.1=g then f (y (l.2.2.2.2.2.2.2.2.2.1.a_,32,l.2.2.2.1,l.2.2.2.2.2.2.2.2.1,l.2.2.2.2.2.2.2.2.2.2)) else f (M (l.1,l.2.1,l.2.2.2.1,l.2.2.2.2.1,l.2.2.2.2.2.1,l.2.2.2.2.2.2.1,kr l.2.2.2.2.2.2.2.1,l.2.2.2.2.2.2.2.2.1,kr l.2.2.2.2.2.2.2.2.2.1,l.2.2.2.2.2.2.2.2.2.2)) else f (M (e.1, -1,e.2.1,e.2.2.1,e.2.2.2.1,e.2.2.2.2.1,kr e.2.2.2.2.2.1,e.2.2.2.2.2.2.1,kr e.2.2.2.2.2.2.2.1,e.2.2.2.2.2.2.2.2))).bind λi=>F (λj=>f (y j)) (λj=>(zp 24 j.2.2.2.2.2.2.2.2.2 [qk.mk j.2.2.2.2.2.2.2.2.1.T_ j.2.1]).bind λl=>f (M (j.1,j.2.2.1,j.2.2.2.1,j.2.2.2.2.1,j.2.2.2.2.2.1,kr j.2.2.2.2.2.2.1,j.2.2.2.2.2.2.2.1,l))) i) d).bind λb=>F (λc=>f (Step.done (y c))) (λc=>f (Step.next (Ut (c.1+1),c.2.1,c.2.2.1,c.2.2.2.1,c.2.2.2.2.1,kr c.2.2.2.2.2.1,c.2.2.2.2.2.2))) b else f (Step.done (M (a.2.1,a.2.2.1,a.2.2.2.1,a.2.2.2.2.1,kr a.2.2.2.2.2.1,a.2.2.2.2.2.2)))
def qa3(A:zek)(B:vE)(C:zef)(D:zd5):zo6->Us (Step zo6 tA4):=λa=>if q (a.2.2.1 < 2)=g then((zb a.2.2.2.2.2.2.1 a.2.1).bind λb=>(zb a.2.2.2.2.2.2.1 a.2.1).bind λc=>(zb c.K_ a.2.2.1).bind λd=>if q (d.T_=lit [])=g then f (y a) else(C (a.2.2.2.2.2.1,d.T_)).bind λe=>(if q (e < 0)=g then f (a.1,a.2.1,a.2.2.1,e,g,a.2.2.2) else f (a.1,a.2.1,a.2.2.1,e,q (e=a.1),a.2.2.2)).bind λi=>if i.2.2.2.2.1=g then(zb i.2.2.2.2.2.2.2.2.1 i.2.1).bind λj=>(zb i.2.2.2.2.2.2.2.2.1 i.2.1).bind λl=>f (M (l.a_,33,i.2.2.2.2.2.1,i.2.2.2.2.2.2.2.2.2.1,i.2.2.2.2.2.2.2.2.2.2.2)) else(zb i.2.2.2.2.2.2.2.2.2.2.1 i.2.2.1).bind λm=>(zb i.2.2.2.2.2.2.2.2.2.2.1 i.2.2.1).bind λn=>f (y (i.1,i.2.1,i.2.2.1,i.2.2.2.2.2.1,i.2.2.2.2.2.2.1,i.2.2.2.2.2.2.2.1,i.2.2.2.2.2.2.2.2.1,i.2.2.2.2.2.2.2.2.2.1,Sl.set i.2.2.2.2.2.2.2.2.2.2.1 i.2.2.1 (Ut (i.2.2.2.1+1)),i.2.2.2.2.2.2.2.2.2.2.2))).bind λb=>F (λc=>f (Step.next (c.1,c.2.1,Ut (c.2.2.1+1),c.2.2.2))) (λc=>f (Step.done (y c))) b else f (Step.done (M (a.1,a.2.1,a.2.2.2)))
def q5r(A:zek)(B:vE)(C:zef)(D:zd5):zus->Us (Step zus zlQ):=λa=>if q (a.2.2.1 < Sl.len a.2.2.2.2.2.2.2.2.1)=g then(zb a.2.2.2.2.2.2.2.2.1 a.2.2.1).bind λb=>(zb a.2.2.2.2.2.2.2.2.1 a.2.2.1).bind λc=>(zp 24 a.2.2.2.2.2.2.2.2.2.2 [c]).bind λd=>f (Step.next (a.1,a.2.1,Ut (a.2.2.1+1),a.2.2.2.1,a.2.2.2.2.1,a.2.2.2.2.2.1,a.2.2.2.2.2.2.1,a.2.2.2.2.2.2.2.1,a.2.2.2.2.2.2.2.2.1,a.2.2.2.2.2.2.2.2.2.1,d)) else f (Step.done (a.1,a.2.1,a.2.2.2.1,a.2.2.2.2.1,a.2.2.2.2.2.1,a.2.2.2.2.2.2.1,a.2.2.2.2.2.2.2.1,a.2.2.2.2.2.2.2.2.2))
def q3z(A:zek)(B:vE)(C:zef)(D:zd5):zlQ->Us (Step zlQ zzz):=λa=>if q (a.2.1 < Sl.len a.2.2.2.2.2.1)=g then(lpO (qa3 A B C D) (a.1,a.2.1,0,a.2.2.1,a.2.2.2.1,a.2.2.2.2.1,a.2.2.2.2.2.1,a.2.2.2.2.2.2.1,O [0,0] g,a.2.2.2.2.2.2.2)).bind λb=>F (λc=>f (Step.done (y c))) (λc=>(zb c.2.2.2.2.2.1 c.2.1).bind λd=>(zb c.2.2.2.2.2.1 c.2.1).bind λe=>(zb c.2.2.2.2.2.2.2.1 0).bind λi=>(zb c.2.2.2.2.2.2.2.1 0).bind λj=>(zb c.2.2.2.2.2.2.2.1 1).bind λl=>(zb c.2.2.2.2.2.2.2.1 1).bind λm=>(zb c.2.2.2.2.2.1 c.2.1).bind λn=>(zb c.2.2.2.2.2.1 c.2.1).bind λo=>(zb o.K_ 0).bind λp=>(zb c.2.2.2.2.2.1 c.2.1).bind λr=>(zb c.2.2.2.2.2.1 c.2.1).bind λs=>(zb s.K_ 1).bind λt=>(D (e.T_,j,m,p.n_,t.n_)).bind λu=>(lpO (q5r A B C D) (c.1,c.2.1,0,c.2.2.1,c.2.2.2.1,c.2.2.2.2.1,c.2.2.2.2.2.1,c.2.2.2.2.2.2.1,u,c.2.2.2.2.2.2.2.2)).bind λv=>f (Step.next (v.1,Ut (v.2.1+1),v.2.2))) b else f (Step.done (M (a.2.2.1,a.2.2.2.1,a.2.2.2.2.2.2)))
def qa4(A:zek)(B:vE)(C:zef)(D:zd5)(x:wj):Us zjy:=(A (kr x.1,3)).bind λa=>(A (kr x.1,4)).bind λb=>(zb x.1.K_ 0).bind λc=>(B (x.2,x.1.T_)).bind λd=>if q (0<=d)=g then f (qc.mk x.1.T_ 0 0 (O [] N) (O [] N),x.1.a_,30,x.2) else if q (8 < a.len)=g then f (qc.mk x.1.T_ 0 0 (O [] N) (O [] N),x.1.a_,22,x.2) else(lpO (q4m A B C D) (0,x.2,(lit [],0,0),a,b,kr c,(x.1.T_,0,0),O [] N)).bind λe=>F (λi=>f (qc.mk i.2.2.2.1.1 i.2.2.2.1.2.1 i.2.2.2.1.2.2 i.2.2.2.2 (O [] N),i.1,i.2.1,i.2.2.1)) (λi=>(if q (i.2.2.2.2.1.T_=lit [99,101,108,108])=g then f (y (-1,i.1,i.2.1,i.2.2.1,i.2.2.2.1,(i.2.2.2.2.2.1.1,1,i.2.2.2.2.2.1.2.2),i.2.2.2.2.2.2)) else(if q (i.2.2.2.2.1.T_=lit [99,111,117,110,116,101,100])=g then f (-1,i.2.2.2.2.1.T_,q (i.2.2.2.2.1.T_=lit [99,111,117,110,116,101,100]),i.1,i.2.1,i.2.2.1,i.2.2.2.1,kr i.2.2.2.2.1,i.2.2.2.2.2) else f (-1,i.2.2.2.2.1.T_,q (i.2.2.2.2.1.T_=lit [108,111,99,107]),i.1,i.2.1,i.2.2.1,i.2.2.2.1,kr i.2.2.2.2.1,i.2.2.2.2.2)).bind λj=>(if j.2.2.1=g then(if q (j.2.2.2.2.2.2.2.1.T_=lit [108,111,99,107])=g then f (j.2.2.2.1,j.2.2.2.2.1,j.2.2.2.2.2.1,j.2.2.2.2.2.2.1,kr j.2.2.2.2.2.2.2.1,(j.2.2.2.2.2.2.2.2.1.1,3,j.2.2.2.2.2.2.2.2.1.2.2),j.2.2.2.2.2.2.2.2.2) else f (j.2.2.2.1,j.2.2.2.2.1,j.2.2.2.2.2.1,j.2.2.2.2.2.2.1,kr j.2.2.2.2.2.2.2.1,(j.2.2.2.2.2.2.2.2.1.1,2,j.2.2.2.2.2.2.2.2.1.2.2),j.2.2.2.2.2.2.2.2.2)).bind λl=>(zb l.2.2.2.2.1.K_ 0).bind λm=>(C (l.2.2.1,m.T_)).bind λn=>if q (n < 0)=g then f (y (l.2.2.2.2.1.a_,32,l.1,l.2.2.2.2.2)) else f (M (n,l.1,l.2.1,l.2.2.1,l.2.2.2.1,(l.2.2.2.2.2.1.1,l.2.2.2.2.2.1.2.1,n),l.2.2.2.2.2.2)) else(if q (j.2.1=lit [103,117,97,114,100])=g then(zb j.2.2.2.2.2.2.2.1.K_ 0).bind λo=>(B (j.2.2.2.1,o.T_)).bind λp=>if q (p < 0)=g then f (y (j.2.2.2.2.2.2.2.1.a_,31,j.2.2.2.1,(j.2.2.2.2.2.2.2.2.1.1,4,p),j.2.2.2.2.2.2.2.2.2)) else(zb j.2.2.2.1 p).bind λr=>(zb j.2.2.2.1 p).bind λs=>if q (s.S_≠3)=g then f (y (j.2.2.2.2.2.2.2.1.a_,31,j.2.2.2.1,(j.2.2.2.2.2.2.2.2.1.1,4,p),j.2.2.2.2.2.2.2.2.2)) else(if q (0 < Sl.len j.2.2.2.2.2.1)=g then f (j.1,g,j.2.2.2.1,j.2.2.2.2.1,j.2.2.2.2.2.1,j.2.2.2.2.2.2.1,kr j.2.2.2.2.2.2.2.1,(j.2.2.2.2.2.2.2.2.1.1,4,p),j.2.2.2.2.2.2.2.2.2) else f (j.1,q (0 < Sl.len j.2.2.2.2.2.2.1),j.2.2.2.1,j.2.2.2.2.1,j.2.2.2.2.2.1,j.2.2.2.2.2.2.1,kr j.2.2.2.2.2.2.2.1,(j.2.2.2.2.2.2.2.2.1.1,4,p),j.2.2.2.2.2.2.2.2.2)).bind λt=>if t.2.1=g then f (y (t.2.2.2.2.2.2.1.a_,32,t.2.2.1,t.2.2.2.2.2.2.2)) else f (M (t.1,t.2.2.1,t.2.2.2.1,t.2.2.2.2.1,t.2.2.2.2.2.1,t.2.2.2.2.2.2.2)) else f (M (j.1,j.2.2.2.1,j.2.2.2.2.1,j.2.2.2.2.2.1,j.2.2.2.2.2.2.1,j.2.2.2.2.2.2.2.2))).bind λo=>F (λp=>f (y p)) (λp=>f (M p)) o).bind λl=>F (λm=>f (M m)) (λm=>f (y m)) l).bind λj=>F (λl=>(lpO (q3z A B C D) (l.1,0,l.2.1,l.2.2.1,l.2.2.2.1,l.2.2.2.2.1,l.2.2.2.2.2.1,l.2.2.2.2.2.2,O [] N)).bind λm=>F (λn=>f (qc.mk n.2.2.2.1.1 n.2.2.2.1.2.1 n.2.2.2.1.2.2 n.2.2.2.2.1 n.2.2.2.2.2,n.1,n.2.1,n.2.2.1)) (λn=>f (qc.mk n.2.2.1.1 n.2.2.1.2.1 n.2.2.1.2.2 n.2.2.2.1 n.2.2.2.2,0,0,n.1)) m) (λl=>f (qc.mk l.2.2.2.1.1 l.2.2.2.1.2.1 l.2.2.2.1.2.2 l.2.2.2.2 (O [] N),l.1,l.2.1,l.2.2.1)) j) e
def q46:wj->Us zjy:=qa4 q1c q16 q1b q1a
theorem qjr:@Eq ((wj)->Us zjy) zsR.F q46:=by delta q46;rw[<-qj5,<-qcu,<-qhs,<-qig];kernel_rfl
def q4t(A:zvH):zjJ->Us (Step zjJ (zP⊕GP)):=λa=>if q (a.1 < a.2.1.K_.len)=g then((zb a.2.1.K_ a.1).bind λb=>if q (b.k_≠1)=g then f (y (a.1,kr a.2.1,a.2.2)) else(zb a.2.1.K_ a.1).bind λc=>(A (kr c,a.2.2)).bind λd=>if q (d.2.2.1≠0)=g then f (M (d.2.1,d.2.2.1)) else(zp 80 d.2.2.2 [d.1]).bind λe=>f (y (a.1,kr a.2.1,e))).bind λb=>F (λc=>f (Step.next (Ut (c.1+1),kr c.2.1,c.2.2))) (λc=>f (Step.done (y c))) b else f (Step.done (M a.2.2))
def q85(A:zvH)(x:q7):Us (Int×Int×GP):=(lpO (q4t A) (0,kr x,O [] N)).bind λa=>F (λb=>f (b.1,b.2,O [] N)) (λb=>f (0,0,b)) a
def q2i:zjn:=q85 q46
theorem qfd:@Eq zjn zsS.F q2i:=by delta q2i;rw[<-qjr];kernel_rfl
def q95(A:vE)(x:wj):Us zgL:=(if q (x.1.T_=lit [105,110,116])=g then f (x.2,kr x.1,qh.mk (lit []) 0 0,qh.mk (lit []) 1 0) else(if q (x.1.T_=lit [111,119,110])=g then f (x.2,kr x.1,qh.mk (lit []) 0 0,qh.mk (lit []) 2 0) else(if q (x.1.T_=lit [38])=g then f (x.2,kr x.1,qh.mk (lit []) 0 0,qh.mk (lit []) 3 0) else(if q (x.1.T_=lit [38,109,117,116])=g then f (x.2,kr x.1,qh.mk (lit []) 0 0,qh.mk (lit []) 4 0) else f (x.2,kr x.1,qh.mk (lit []) 0 0,qh.mk (lit []) 0 0)).bind λa=>f (a.1,kr a.2.1,a.2.2)).bind λa=>f (a.1,kr a.2.1,a.2.2)).bind λa=>f (a.1,kr a.2.1,a.2.2)).bind λa=>(if q (1 < a.2.2.2.M_)=g then(zb a.2.1.K_ 0).bind λb=>(A (a.1,b.T_)).bind λc=>if q (c < 0)=g then f (y (N,qh.mk (lit []) 0 0)) else f (M (a.2.2.1,qh.mk a.2.2.2.N_ a.2.2.2.M_ c)) else f (M a.2.2)).bind λb=>F (λc=>f (c.2,c.1)) (λc=>f (c.2,g)) b
def q20:wj->Us zgL:=q95 q16
theorem qj6:@Eq ((wj)->Us zgL) zsT.F q20:=by delta q20;rw[<-qcu];kernel_rfl
def q5s(A:zjk):zuq->Us (Step zuq zzs):=λa=>if q (a.2.2.2.1 < a.2.2.1)=g then(zb a.2.2.2.2.1.K_ a.2.2.2.1).bind λb=>if q (b.T_=a.2.2.2.2.2.2.2.1.T_)=g then f (Step.done (y (a.2.2.2.2.2.2.2.1.a_,30,lit [],lit [],0,0))) else f (Step.next (a.1,a.2.1,a.2.2.1,Ut (a.2.2.2.1+1),kr a.2.2.2.2.1,a.2.2.2.2.2.1,a.2.2.2.2.2.2.1,kr a.2.2.2.2.2.2.2.1,a.2.2.2.2.2.2.2.2)) else f (Step.done (M (a.1,a.2.1,a.2.2.1,kr a.2.2.2.2.1,a.2.2.2.2.2.1,a.2.2.2.2.2.2.1,kr a.2.2.2.2.2.2.2.1,a.2.2.2.2.2.2.2.2)))
def q5t(A:zjk):zun->Us (Step zun tA7):=λa=>if q (a.2.2.2.1 < a.2.2.1)=g then(zb a.2.2.2.2.2.2.2.2.2 a.2.2.2.1).bind λb=>(zb a.2.2.2.2.2.2.2.2.2 a.2.2.2.1).bind λc=>(if q (1 < a.2.2.2.2.2.2.2.2.1.M_)=g then if q (1 < c.M_)=g then if q (a.2.2.2.2.2.2.2.2.1.t_=c.t_)=g then(zb a.1 a.2.2.2.2.2.2.2.2.1.t_).bind λd=>f (a.1,a.2.1,a.2.2.1,a.2.2.2.1,q (d.S_≠0),kr a.2.2.2.2.1,a.2.2.2.2.2.1,a.2.2.2.2.2.2.1,kr a.2.2.2.2.2.2.2.1,a.2.2.2.2.2.2.2.2) else f (a.1,a.2.1,a.2.2.1,a.2.2.2.1,N,kr a.2.2.2.2.1,a.2.2.2.2.2.1,a.2.2.2.2.2.2.1,kr a.2.2.2.2.2.2.2.1,a.2.2.2.2.2.2.2.2) else f (a.1,a.2.1,a.2.2.1,a.2.2.2.1,N,kr a.2.2.2.2.1,a.2.2.2.2.2.1,a.2.2.2.2.2.2.1,kr a.2.2.2.2.2.2.2.1,a.2.2.2.2.2.2.2.2) else f (a.1,a.2.1,a.2.2.1,a.2.2.2.1,N,kr a.2.2.2.2.1,a.2.2.2.2.2.1,a.2.2.2.2.2.2.1,kr a.2.2.2.2.2.2.2.1,a.2.2.2.2.2.2.2.2)).bind λd=>if d.2.2.2.2.1=g then(zb d.2.2.2.2.2.2.2.2.1.K_ 0).bind λe=>f (Step.done (y (e.a_,34,lit [],lit [],0,0))) else f (Step.next (d.1,d.2.1,d.2.2.1,Ut (d.2.2.2.1+1),kr d.2.2.2.2.2.1,d.2.2.2.2.2.2.1,d.2.2.2.2.2.2.2.1,kr d.2.2.2.2.2.2.2.2.1,d.2.2.2.2.2.2.2.2.2)) else f (Step.done (M (a.1,a.2.1,a.2.2.1,kr a.2.2.2.2.1,a.2.2.2.2.2.1,a.2.2.2.2.2.2.1,kr a.2.2.2.2.2.2.2.1,a.2.2.2.2.2.2.2.2)))
def q5u(A:zjk):zo9->Us (Step zo9 zzw):=λa=>if q (a.2.2.1 < a.2.1)=g then((zb a.2.2.2.1.K_ a.2.2.1).bind λb=>(lpO (q5s A) (a.1,a.2.1,a.2.2.1,0,kr a.2.2.2.1,a.2.2.2.2.1,a.2.2.2.2.2.1,kr b,a.2.2.2.2.2.2)).bind λc=>F (λd=>f (y d)) (λd=>(zb d.2.2.2.2.2.2.1.K_ 0).bind λe=>(A (kr e,d.1)).bind λi=>if(!i.2)=g then(zb d.2.2.2.2.2.2.1.K_ 0).bind λj=>f (y (j.a_,31,lit [],lit [],0,0)) else(lpO (q5t A) (d.1,d.2.1,d.2.2.1,0,kr d.2.2.2.1,d.2.2.2.2.1,d.2.2.2.2.2.1,kr d.2.2.2.2.2.2.1,i.1,d.2.2.2.2.2.2.2)).bind λl=>F (λm=>f (y m)) (λm=>(zp 32 m.2.2.2.2.2.2.2.2 [qh.mk m.2.2.2.2.2.2.1.T_ m.2.2.2.2.2.2.2.1.M_ m.2.2.2.2.2.2.2.1.t_]).bind λn=>f (M (m.1,m.2.1,m.2.2.1,kr m.2.2.2.1,m.2.2.2.2.1,m.2.2.2.2.2.1,n))) l) c).bind λb=>F (λc=>f (Step.done (y c))) (λc=>f (Step.next (c.1,c.2.1,Ut (c.2.2.1+1),kr c.2.2.2.1,c.2.2.2.2))) b else f (Step.done (M (a.1,a.2.1,kr a.2.2.2.1,a.2.2.2.2)))
def qa5(A:zjk)(x:wj):Us zjP:=if q (8 < Ut (x.1.K_.len - 2))=g then f (qg.mk (lit []) (O [] N) (qh.mk (lit []) 0 0),x.1.a_,22) else(lpO (q5u A) (x.2,Ut (x.1.K_.len - 2),0,kr x.1,(lit [],lit [],0,0),(x.1.T_,lit [],0,0),O [] N)).bind λa=>F (λb=>f (qg.mk b.2.2.1 (O [] N) (qh.mk b.2.2.2.1 b.2.2.2.2.1 b.2.2.2.2.2),b.1,b.2.1)) (λb=>(zb b.2.2.1.K_ b.2.1).bind λc=>(A (kr c,b.1)).bind λd=>if(!d.2)=g then(zb b.2.2.1.K_ b.2.1).bind λe=>f (qg.mk (lit []) (O [] N) (qh.mk (lit []) 0 0),e.a_,31) else f (qg.mk b.2.2.2.2.1.1 b.2.2.2.2.2 d.1,0,0)) a
def q47:wj->Us zjP:=qa5 q20
theorem qjs:@Eq ((wj)->Us zjP) zsU.F q47:=by delta q47;rw[<-qj6];kernel_rfl
def q5d(A:zvW):zjv->Us (Step zjv (zP⊕Sl qg)):=λa=>if q (a.2.1 < a.2.2.1.K_.len)=g then((zb a.2.2.1.K_ a.2.1).bind λb=>if q (b.k_≠6)=g then f (y (a.1,a.2.1,kr a.2.2.1,a.2.2.2)) else(zb a.2.2.1.K_ a.2.1).bind λc=>(A (kr c,a.1)).bind λd=>if q (d.2.2≠0)=g then f (M d.2) else(zp 72 a.2.2.2 [d.1]).bind λe=>f (y (a.1,a.2.1,kr a.2.2.1,e))).bind λb=>F (λc=>f (Step.next (c.1,Ut (c.2.1+1),kr c.2.2.1,c.2.2.2))) (λc=>f (Step.done (y c))) b else f (Step.done (M a.2.2.2))
def q96(A:zvW)(x:wj):Us zjH:=(lpO (q5d A) (x.2,0,kr x.1,O [] N)).bind λa=>F (λb=>f (b.1,b.2,O [] N)) (λb=>f (0,0,b)) a
def q2e:wj->Us zjH:=q96 q47
theorem qfz:@Eq ((wj)->Us zjH) zsV.F q2e:=by delta q2e;rw[<-qjs];kernel_rfl
def qc4(x:zi6):Us xR:=if(!x.1)=g then f (y ((x.2.2.1.2.2,x.2.1),x.2.2)) else f (M x.2.2)
def q36:zi6->Us xR:=qc4
theorem qg0:@Eq ((zi6)->Us xR) zkS.F q36:=by kernel_rfl
def qas(A:zul)(x:zpB):Us xR:=(A (x.2.1,x.2.2.1,(x.2.2.2.1.1,x.2.2.2.1.2.1,x.1.a_),x.2.2.2.2)).bind λa=>F (λb=>f (y b)) (λb=>f (M b)) a
def q1x:zpB->Us xR:=qas q36
theorem qef:@Eq ((zpB)->Us xR) zog.F q1x:=by delta q1x;rw[<-qg0];kernel_rfl
def qdp(x:zjQ):Us Z4:=f (q (x.1.N_=x.2),x.2)
def q79:zjQ->Us Z4:=qdp
theorem qko:@Eq ((zjQ)->Us Z4) zoh.F q79:=by kernel_rfl
def q65(A:zvL):zp0->Us (Step zp0 zaq):=λa=>if q (a.2.2.1 < a.2.1)=g then(zb a.1 a.2.2.1).bind λb=>(A (b,a.2.2.2)).bind λc=>if c.1=g then f (Step.done (y (a.2.2.1,c.2))) else f (Step.next (a.1,a.2.1,Ut (a.2.2.1+1),c.2)) else f (Step.done (M a.2.2.2))
def qde(A:zvL)(x:zjF):Us yA:=(lpO (q65 A) (x.1,Sl.len x.1,0,x.2)).bind λa=>F (λb=>f b) (λb=>f (-1,b)) a
def qb9:zjF->Us yA:=qde q79
theorem qk9:@Eq ((zjF)->Us yA) zsW.F qb9:=by delta qb9;rw[<-qko];kernel_rfl
def qeu(A:zjF->Us yA)(x:qb×Uq):GQ:=(A (x.1.V_,x.2)).bind λa=>f a.1
def q1s:vG:=qeu qb9
theorem q78:@Eq ((qb×Uq)->Us Int) zdc.F q1s:=by delta q1s;rw[<-qk9];kernel_rfl
def q4a(A:zlM)(B:vG)(C:zck)(D:zul):zo7->Us (Step zo7 zzA):=λa=>if q (a.2.2.2.1 < a.2.2.1)=g then((zb a.2.1 a.2.2.2.1).bind λb=>(zb b.K_ 0).bind λc=>(B (qb.mk a.2.2.2.2.2.2.2.2.1.1 a.2.2.2.2.2.2.2.2.1.2 a.2.2.2.2.2.2.2.2.2,b.T_)).bind λd=>(A (kg b,q (d < 0),30,a.2.2.2.2.1,a.2.2.2.2.2.1)).bind λe=>F (λi=>f (y i)) (λi=>(if q (c.T_=lit [105,110,116])=g then(A (kg c,g,34,i)).bind λj=>F (λl=>f (y l)) (λl=>f (M (a.1,a.2.1,a.2.2.1,a.2.2.2.1,l.1,l.2,kg a.2.2.2.2.2.2.1,a.2.2.2.2.2.2.2.1,a.2.2.2.2.2.2.2.2.1,kg b,kg c,a.2.2.2.2.2.2.2.2.2))) j else(A (kg c,q (c.T_=lit [111,119,110]),34,i)).bind λl=>F (λm=>f (y m)) (λm=>f (M (a.1,a.2.1,a.2.2.1,a.2.2.2.1,m.1,m.2,kg a.2.2.2.2.2.2.1,a.2.2.2.2.2.2.2.1,a.2.2.2.2.2.2.2.2.1,kg b,kg c,a.2.2.2.2.2.2.2.2.2))) l).bind λj=>F (λl=>f (y l)) (λl=>(if q (l.2.2.2.2.2.2.2.2.2.2.1.T_=lit [111,119,110])=g then(zb l.2.2.2.2.2.2.2.2.2.2.1.K_ 0).bind λm=>(C (l.2.2.2.2.1.2.1,m.T_)).bind λn=>(D (q (0<=n),31,l.2.2.2.2.1,l.2.2.2.2.2.1)).bind λo=>F (λp=>f (y p)) (λp=>f (M (l.1,l.2.1,l.2.2.1,l.2.2.2.1,p.1,p.2,kg l.2.2.2.2.2.2.1,l.2.2.2.2.2.2.2.1,l.2.2.2.2.2.2.2.2.1,qf.mk l.2.2.2.2.2.2.2.2.2.1.T_ 2 n,l.2.2.2.2.2.2.2.2.2.2.2))) o else f (M (l.1,l.2.1,l.2.2.1,l.2.2.2.1,l.2.2.2.2.1,l.2.2.2.2.2.1,kg l.2.2.2.2.2.2.1,l.2.2.2.2.2.2.2.1,l.2.2.2.2.2.2.2.2.1,qf.mk l.2.2.2.2.2.2.2.2.2.1.T_ 1 0,l.2.2.2.2.2.2.2.2.2.2.2))).bind λm=>F (λn=>f (y n)) (λn=>(zp 32 n.2.2.2.2.2.2.2.2.2.2 [n.2.2.2.2.2.2.2.2.2.1]).bind λo=>f (M (n.1,n.2.1,n.2.2.1,n.2.2.2.1,n.2.2.2.2.1,n.2.2.2.2.2.1,kg n.2.2.2.2.2.2.1,n.2.2.2.2.2.2.2.1,n.2.2.2.2.2.2.2.2.1,o))) m) j) e).bind λb=>F (λc=>f (Step.done (y c))) (λc=>f (Step.next (c.1,c.2.1,c.2.2.1,Ut (c.2.2.2.1+1),c.2.2.2.2.1,c.2.2.2.2.2.1,kg c.2.2.2.2.2.2.1,c.2.2.2.2.2.2.2))) b else f (Step.done (M (a.1,a.2.2.2.2.1,a.2.2.2.2.2.1,kg a.2.2.2.2.2.2.1,a.2.2.2.2.2.2.2)))
def q97(A:zlM)(B:vG)(C:zck)(D:zul)(x:zpU):Us zlP:=(A (kg x.1,q (Ut (x.1.K_.len - 2)<=8),22,x.2)).bind λa=>F (λb=>f (y b)) (λb=>(Zd x.1.K_ 0 (Ut (x.1.K_.len - 2))).bind λc=>(lpO (q4a A B C D) (Ut (x.1.K_.len - 2),c,c.len,0,b.1,b.2,kg x.1,(lit [],0),(x.1.T_,Ut (x.1.K_.len - 2)),O [] N)).bind λd=>F (λe=>f (y e)) (λe=>(zb e.2.2.2.1.K_ e.1).bind λi=>(zb e.2.2.2.1.K_ e.1).bind λj=>(A (kg i,q (j.T_=lit []),35,e.2.1,e.2.2.1)).bind λl=>F (λm=>f (y m)) (λm=>f (M (e.2.2.2.2.2.1,m.1,m.2,e.2.2.2.2.2.2))) l) d) a
def q37:zpU->Us zlP:=q97 q1x q1s q25 q36
theorem qj7:@Eq ((zpU)->Us zlP) zsX.F q37:=by delta q37;rw[<-qef,<-q78,<-qba,<-qg0];kernel_rfl
def qat(x:zi0):Us zO:=if(!x.1)=g then f (y ((x.2.2.1.2.2.1,x.2.1),x.2.2)) else f (M x.2.2)
def q14:zi0->Us zO:=qat
theorem q2t:@Eq ((zi0)->Us zO) Wz.F q14:=by kernel_rfl
def q88(A:vG)(B:WK)(x:zpC):Us WM:=(zb x.2.2 x.2.1.2.2.2).bind λa=>(zb x.2.2 x.2.1.2.2.2).bind λb=>(A (qb.mk a.N_ a.P_ b.V_,x.1)).bind λc=>(B (q (0<=c),31,x.2)).bind λd=>F (λe=>f (y e)) (λe=>(zb e.2 e.1.2.2.2).bind λi=>(zb e.2 e.1.2.2.2).bind λj=>(zb j.V_ c).bind λl=>(zb e.2 e.1.2.2.2).bind λm=>(zb m.V_ c).bind λn=>f (M (qf.mk (lit []) n.M_ n.t_,e))) d
def q2w:zpC->Us WM:=q88 q1s q14
theorem qfe:@Eq ((zpC)->Us WM) zoi.F q2w:=by delta q2w;rw[<-q78,<-q2t];kernel_rfl
def qau(x:qd×q6):Us zgM:=f (q (x.1.N_=x.2.T_),kg x.2)
def q4x:qd×q6->Us zgM:=qau
theorem qht:@Eq ((qd×q6)->Us zgM) zoj.F q4x:=by kernel_rfl
def q7a(A:zv4):zqa->Us (Step zqa (Int×q6⊕q6)):=λa=>if q (a.2.2.1 < a.2.1)=g then(zb a.1 a.2.2.1).bind λb=>(A (b,kg a.2.2.2)).bind λc=>if c.1=g then f (Step.done (y (a.2.2.1,kg c.2))) else f (Step.next (a.1,a.2.1,Ut (a.2.2.1+1),kg c.2)) else f (Step.done (M (kg a.2.2.2)))
def qbq(A:zv4)(x:Sl qd×q6):Us (Int×q6):=(lpO (q7a A) (x.1,Sl.len x.1,0,kg x.2)).bind λa=>F (λb=>f (b.1,kg b.2)) (λb=>f (-1,kg b)) a
def q7y:Sl qd×q6->Us (Int×q6):=qbq q4x
theorem qky:@Eq ((Sl qd×q6)->Us (Int×q6)) zsY.F q7y:=by delta q7y;rw[<-qht];kernel_rfl
def qa7(A:WK)(B:zzu)(x:zpH):Us zO:=if q (x.1.T_=lit [])=g then(A (q (x.2.1.M_=1),40,x.2.2)).bind λa=>F (λb=>f (y b)) (λb=>f (M b)) a else(B (x.1.T_,x.2.2)).bind λb=>F (λc=>f (y c)) (λc=>(if q (x.2.1.M_=1)=g then(A (q (c.1.M_=1),40,c.2)).bind λd=>F (λe=>f (y e)) (λe=>f (M e)) d else(if q (x.2.1.M_=3)=g then f (q (c.1.M_=4),c.2.1,c.2.2,kg x.1,x.2.1,c.1) else f (N,c.2.1,c.2.2,kg x.1,x.2.1,c.1)).bind λe=>(if e.1=g then(if q (e.2.2.2.1.n_=0)=g then(A (q (e.2.2.2.2.2.t_=e.2.2.2.2.1.t_),40,e.2.1,e.2.2.1)).bind λi=>F (λj=>f (y j)) (λj=>f (M j)) i else(A (N,40,e.2.1,e.2.2.1)).bind λj=>F (λl=>f (y l)) (λl=>f (M l)) j).bind λi=>F (λj=>f (y j)) (λj=>f (M j)) i else(if q (e.2.2.2.1.n_=0)=g then if q (e.2.2.2.2.2.M_=e.2.2.2.2.1.M_)=g then(A (q (e.2.2.2.2.2.t_=e.2.2.2.2.1.t_),40,e.2.1,e.2.2.1)).bind λj=>F (λl=>f (y l)) (λl=>f (M l)) j else(A (N,40,e.2.1,e.2.2.1)).bind λl=>F (λm=>f (y m)) (λm=>f (M m)) l else(A (N,40,e.2.1,e.2.2.1)).bind λm=>F (λn=>f (y n)) (λn=>f (M n)) m).bind λj=>F (λl=>f (y l)) (λl=>f (M l)) j).bind λi=>F (λj=>f (y j)) (λj=>f (M j)) i).bind λd=>F (λe=>f (y e)) (λe=>f (M e)) d) b
def q1f:zpH->Us zO:=qa7 q14 q2w
theorem qdh:@Eq ((zpH)->Us zO) zhi.F q1f:=by delta q1f;rw[<-q2t,<-qfe];kernel_rfl
def q6q(A:WK)(B:zfr):zpn->Us (Step zpn zO):=λa=>if q (a.2.2.2.1 < a.2.2.1)=g then(zb a.2.1 a.2.2.2.1).bind λb=>(zb a.1 a.2.2.2.1).bind λc=>(B (kg b,c,a.2.2.2.2)).bind λd=>F (λe=>f (Step.done (y e))) (λe=>f (Step.next (a.1,a.2.1,a.2.2.1,Ut (a.2.2.2.1+1),e))) d else f (Step.done (M a.2.2.2.2))
def q98(A:WK)(B:zfr)(x:ziZ):Us zO:=(A (q (Sl.len x.1=Sl.len x.2.1),51,x.2.2)).bind λa=>F (λb=>f (y b)) (λb=>(lpO (q6q A B) (x.2.1,x.1,Sl.len x.1,0,b)).bind λc=>F (λd=>f (y d)) (λd=>f (M d)) c) a
def q5v:ziZ->Us zO:=q98 q14 q1f
theorem qj8:@Eq ((ziZ)->Us zO) zs0.F q5v:=by delta q5v;rw[<-q2t,<-qdh];kernel_rfl
def q99(A:Sl qd×q6->Us (Int×q6))(B:WK)(C:ziZ->Us zO)(x:zd9):Us WM:=(A (x.2.1.1,kg x.1)).bind λa=>(B (q (0<=a.1),31,x.2)).bind λb=>F (λc=>f (y c)) (λc=>(zb c.1.1 a.1).bind λd=>(C (a.2.K_,d.P_,c)).bind λe=>F (λi=>f (y i)) (λi=>(zb i.1.1 a.1).bind λj=>f (M (j.R_,i))) e) b
def q1t:zd9->Us WM:=q99 q7y q14 q5v
theorem qg1:@Eq ((zd9)->Us WM) zkT.F q1t:=by delta q1t;rw[<-qky,<-q2t,<-qj8];kernel_rfl
def q9a(A:zzu)(B:WK)(C:zo3)(x:zd9):Us zpd:=(if q (x.1.k_=5)=g then if q (x.1.T_=lit [])=g then f (y (x.2.1,x.2.2,qf.mk (lit []) 1 0)) else(A (x.1.T_,x.2)).bind λa=>F (λb=>f (M (y b))) (λb=>(if q (x.1.n_=0)=g then(B (g,40,b.2)).bind λc=>F (λd=>f (y d)) (λd=>f (M (d.1,d.2,qf.mk (lit []) 0 0,b.1))) c else(B (q (b.1.M_=1),40,b.2)).bind λd=>F (λe=>f (y e)) (λe=>f (M (e.1,e.2,qf.mk (lit []) 0 0,b.1))) d).bind λc=>F (λd=>f (M (y d))) (λd=>f (y (d.1,d.2.1,d.2.2.2))) c) a else(if q (x.1.k_=21)=g then f (x.1.k_,q (x.1.k_=21),x.2.1,x.2.2,kg x.1,qf.mk (lit []) 0 0,qf.mk (lit []) 1 0) else f (x.1.k_,q (x.1.k_=22),x.2.1,x.2.2,kg x.1,qf.mk (lit []) 0 0,qf.mk (lit []) 1 0)).bind λb=>(if b.2.1=g then((zb b.2.2.2.2.1.K_ 0).bind λc=>(zb b.2.2.2.2.1.K_ 1).bind λd=>(A (c.T_,b.2.2.1,b.2.2.2.1)).bind λe=>F (λi=>f (y i)) (λi=>(A (d.T_,i.2)).bind λj=>F (λl=>f (y l)) (λl=>f (M (l.2.1,l.2.2,b.2.2.2.2.2.1,b.2.2.2.2.2.2,i.1,l.1))) j) e).bind λc=>F (λd=>f (y d)) (λd=>(if q (d.2.2.2.2.1.M_=1)=g then(B (q (d.2.2.2.2.2.M_=1),40,d.1,d.2.1)).bind λe=>F (λi=>f (y i)) (λi=>f (M (i.1,i.2,d.2.2.1,d.2.2.2.1))) e else(B (N,40,d.1,d.2.1)).bind λi=>F (λj=>f (y j)) (λj=>f (M (j.1,j.2,d.2.2.1,d.2.2.2.1))) i).bind λe=>F (λi=>f (y i)) (λi=>f (M (y (i.1,i.2.1,i.2.2.2)))) e) c else(if q (b.1=26)=g then f (b.1,q (b.1=26),b.2.2.1,b.2.2.2.1,kg b.2.2.2.2.1,b.2.2.2.2.2) else f (b.1,q (b.1=27),b.2.2.1,b.2.2.2.1,kg b.2.2.2.2.1,b.2.2.2.2.2)).bind λd=>(if d.2.1=g then(A (d.2.2.2.2.1.T_,d.2.2.1,d.2.2.2.1)).bind λe=>F (λi=>f (y i)) (λi=>(B (q (i.1.M_=2),40,i.2)).bind λj=>F (λl=>f (y l)) (λl=>(if q (d.2.2.2.2.1.k_=27)=g then f (l.1,l.2,d.2.2.2.2.2.1,qf.mk i.1.N_ 4 i.1.t_) else f (l.1,l.2,d.2.2.2.2.2.1,qf.mk i.1.N_ 3 i.1.t_)).bind λm=>f (M (y (m.1,m.2.1,m.2.2.2)))) j) e else(if q (d.1=28)=g then(C (kg d.2.2.2.2.1,d.2.2.1,d.2.2.2.1)).bind λi=>F (λj=>f (y j)) (λj=>(B (q (j.1.M_≠0),35,j.2)).bind λl=>F (λm=>f (y m)) (λm=>f (M (y (m.1,m.2,j.1)))) l) i else f (M (M (d.2.2.1,d.2.2.2.1,d.2.2.2.2.2)))).bind λi=>F (λj=>f (y j)) (λj=>F (λl=>f (M (y l))) (λl=>f (M (M l))) j) i).bind λe=>F (λi=>f (y i)) (λi=>F (λj=>f (M (y j))) (λj=>f (M (M j))) i) e).bind λc=>F (λd=>f (M (y d))) (λd=>F (λe=>f (y e)) (λe=>f (M (M e))) d) c).bind λa=>F (λb=>f (y (b.2.2,b.1,b.2.1))) (λb=>F (λc=>f (M c)) (λc=>(B (N,50,c.1,c.2.1)).bind λd=>F (λe=>f (M e)) (λe=>f (y (c.2.2.2,e))) d) b) a
def q21:zd9->Us zpd:=q9a q2w q14 q1t
theorem qj9:@Eq ((zd9)->Us zpd) zok.F q21:=by delta q21;rw[<-qfe,<-q2t,<-qg1];kernel_rfl
def qa8(A:vG)(B:WK)(x:zpy):Us zO:=(zb x.2.2.2 x.2.2.1.2.2.2).bind λa=>(zb x.2.2.2 x.2.2.1.2.2.2).bind λb=>(A (qb.mk a.N_ a.P_ b.V_,x.1)).bind λc=>if q (0<=c)=g then(zb x.2.2.2 x.2.2.1.2.2.2).bind λd=>(zb x.2.2.2 x.2.2.1.2.2.2).bind λe=>(zb e.V_ c).bind λi=>(zb x.2.2.2 x.2.2.1.2.2.2).bind λj=>(zb j.V_ c).bind λl=>(B (q (l.N_=x.1) && (q (l.M_=x.2.1.M_) && (q (l.t_=x.2.1.t_) && g)),40,x.2.2)).bind λm=>F (λn=>f (y n)) (λn=>f (M n)) m else(zb x.2.2.2 x.2.2.1.2.2.2).bind λn=>(zb x.2.2.2 x.2.2.1.2.2.2).bind λo=>(zp 32 o.V_ [qf.mk x.1 x.2.1.M_ x.2.1.t_]).bind λp=>(zb x.2.2.2 x.2.2.1.2.2.2).bind λr=>bif q (x.2.2.1.2.2.2=x.2.2.1.2.2.2) then f (M (x.2.2.1,Sl.set x.2.2.2 x.2.2.1.2.2.2 (qb.mk r.N_ r.P_ p))) else W
def q2z:zpy->Us zO:=qa8 q1s q14
theorem qjt:@Eq ((zpy)->Us zO) zol.F q2z:=by delta q2z;rw[<-q78,<-q2t];kernel_rfl
def qai(x:qb×q6):GX:=f (q (x.1.N_=x.2.T_))
def q4i:qb×q6->GX:=qai
theorem qhd:@Eq ((qb×q6)->Us Bool) zom.F q4i:=by kernel_rfl
def q6r(A:qb×q6->GX):zqb->Us (Step zqb zv3):=λa=>if q (a.2.1 < a.1)=g then(zb a.2.2.1 a.2.1).bind λb=>(zb a.2.2.1 a.2.1).bind λc=>(zb a.2.2.1 a.2.1).bind λd=>(A (qb.mk c.N_ c.P_ d.V_,kg a.2.2.2)).bind λe=>if e=g then f (Step.done (y (a.2.1,a.2.2.1,kg a.2.2.2))) else f (Step.next (a.1,Ut (a.2.1+1),a.2.2.1,kg a.2.2.2)) else f (Step.done (M (a.2.2.1,kg a.2.2.2)))
def qb4(A:qb×q6->GX)(x:Uj×q6):Us zgK:=(lpO (q6r A) (Sl.len x.1,0,x.1,kg x.2)).bind λa=>F (λb=>f (b.1,b.2.1,kg b.2.2)) (λb=>f (-1,b.1,kg b.2)) a
def q3u:Uj×q6->Us zgK:=qb4 q4i
theorem qkp:@Eq ((Sl qb×q6)->Us zgK) zon.F q3u:=by delta q3u;rw[<-qhd];kernel_rfl
def q5y(A:WK)(B:zfr):zpj->Us (Step zpj zO):=λa=>if q (a.2.2.2.1 < a.2.2.1)=g then(zb a.2.1 a.2.2.2.1).bind λb=>(zb a.2.2.2.2.2 a.1.1).bind λc=>(Zd c.V_ a.1.2.1 a.1.2.2).bind λd=>(zb d a.2.2.2.1).bind λe=>(zb a.2.2.2.2.2 a.1.1).bind λi=>(zb i.V_ (a.1.2.1+a.2.2.2.1)).bind λj=>(B (kg b,j,a.2.2.2.2)).bind λl=>F (λm=>f (Step.done (y m))) (λm=>f (Step.next (a.1,a.2.1,a.2.2.1,Ut (a.2.2.2.1+1),m))) l else f (Step.done (M a.2.2.2.2))
def q7i(A:WK)(B:zfr)(x:zpo):Us zO:=(zb x.2.2.2 x.2.1.1).bind λa=>(Zd a.V_ x.2.1.2.1 x.2.1.2.2).bind λb=>(A (q (Sl.len x.1=x.2.1.2.2 - x.2.1.2.1),51,x.2.2)).bind λc=>F (λd=>f (y d)) (λd=>(lpO (q5y A B) (x.2.1,x.1,Sl.len x.1,0,d)).bind λe=>F (λi=>f (y i)) (λi=>f (M i)) e) c
def q1r:zpo->Us zO:=q7i q14 q1f
theorem qhu:@Eq ((zpo)->Us zO) zoo.F q1r:=by delta q1r;rw[<-q2t,<-qdh];kernel_rfl
def q4y(A:zuj)(B:zuh)(C:zo3)(D:zpM)(E:WK)(G:tA8)(H:zfr)(I:zhF):zph->Us (Step zph zdx):=λa=>if q (a.2.2.2.2.2.1 < a.2.2.2.2.1)=g then(zb a.2.2.2.1 a.2.2.2.2.2.1).bind λb=>(I (b.K_,a.2.2.2.2.2.2.1,a.2.2.2.2.2.2.2.1)).bind λc=>F (λd=>f (Step.done (y d))) (λd=>f (Step.next (a.1,a.2.1,a.2.2.1,a.2.2.2.1,a.2.2.2.2.1,Ut (a.2.2.2.2.2.1+1),d.1,d.2,a.2.2.2.2.2.2.2.2))) c else f (Step.done (M (a.1,a.2.1,a.2.2.1,a.2.2.2.2.2.2)))
def q1y(A:zuj)(B:zuh)(C:zo3)(D:zpM)(E:WK)(G:tA8)(H:zfr)(I:zhF):We->Us (Step We zO):=λa=>if q (a.2.2.1 < a.2.1)=g then(zb a.1 a.2.2.1).bind λb=>(if q (b.k_=10)=g then((zb b.K_ 0).bind λc=>(A (kg c,(a.2.2.2.1.1,a.2.2.2.1.2.1,b.a_,a.2.2.2.1.2.2.2),a.2.2.2.2.1)).bind λd=>F (λe=>(B (b.T_,e)).bind λi=>F (λj=>f (y j)) (λj=>f (M (a.1,a.2.1,a.2.2.1,j.1,j.2,a.2.2.2.2.2))) i) (λe=>f (y e)) d).bind λc=>F (λd=>f (y d)) (λd=>f (M d)) c else(if q (b.k_=20)=g then(zb b.K_ 0).bind λd=>(C (kg d,(a.2.2.2.1.1,a.2.2.2.1.2.1,b.a_,a.2.2.2.1.2.2.2),a.2.2.2.2.1)).bind λe=>F (λi=>f (y i)) (λi=>f (M (a.1,a.2.1,a.2.2.1,i.2.1,i.2.2,a.2.2.2.2.2))) e else(if q (b.k_=19)=g then(D (a.2.2.2.2.1,kg b)).bind λi=>(E (q (0<=i.1),31,(a.2.2.2.1.1,a.2.2.2.1.2.1,b.a_,a.2.2.2.1.2.2.2),i.2.1)).bind λj=>F (λl=>f (y l)) (λl=>(zb l.2 i.1).bind λm=>(zb l.2 i.1).bind λn=>(zb l.2 i.1).bind λo=>(zb l.2 i.1).bind λp=>(zb l.2 i.1).bind λr=>(Zd r.V_ 0 p.P_).bind λs=>(G (i.2.2.K_,(i.1,0,p.P_),l)).bind λt=>F (λu=>f (y u)) (λu=>f (M (a.1,a.2.1,a.2.2.1,u.1,u.2,a.2.2.2.2.2))) t) j else(if q (b.k_=15)=g then f (a.1,a.2.1,a.2.2.1,b.k_,q (b.k_=15),(a.2.2.2.1.1,a.2.2.2.1.2.1,b.a_,a.2.2.2.1.2.2.2),a.2.2.2.2.1,a.2.2.2.2.2,kg b) else f (a.1,a.2.1,a.2.2.1,b.k_,q (b.k_=16),(a.2.2.2.1.1,a.2.2.2.1.2.1,b.a_,a.2.2.2.1.2.2.2),a.2.2.2.2.1,a.2.2.2.2.2,kg b)).bind λl=>(if l.2.2.2.2.1=g then(zb l.2.2.2.2.2.2.2.2.K_ 0).bind λm=>(H (kg m,l.2.2.2.2.2.2.2.1,l.2.2.2.2.2.1,l.2.2.2.2.2.2.1)).bind λn=>F (λo=>f (y o)) (λo=>(zb l.2.2.2.2.2.2.2.2.K_ 1).bind λp=>(H (kg p,l.2.2.2.2.2.2.2.1,o)).bind λr=>F (λs=>f (y s)) (λs=>(Zd l.2.2.2.2.2.2.2.2.K_ 2 l.2.2.2.2.2.2.2.2.K_.len).bind λt=>(lpO (q4y A B C D E G H I) (l.1,l.2.1,l.2.2.1,t,t.len,0,s.1,s.2,l.2.2.2.2.2.2.2.1)).bind λu=>F (λv=>f (y v)) (λv=>f (M v)) u) r) n else(if q (l.2.2.2.1=17)=g then(E (q (l.2.2.2.2.2.2.2.2.K_.len=0),35,l.2.2.2.2.2.1,l.2.2.2.2.2.2.1)).bind λo=>F (λp=>f (y p)) (λp=>f (M (l.1,l.2.1,l.2.2.1,p.1,p.2,l.2.2.2.2.2.2.2.1))) o else(if q (l.2.2.2.1=18)=g then f (y (l.1,l.2.1,l.2.2.1,l.2.2.2.2.2.1,l.2.2.2.2.2.2.1,l.2.2.2.2.2.2.2.1)) else(E (N,50,l.2.2.2.2.2.1,l.2.2.2.2.2.2.1)).bind λp=>F (λr=>f (M r)) (λr=>f (y (l.1,l.2.1,l.2.2.1,r.1,r.2,l.2.2.2.2.2.2.2.1))) p).bind λp=>F (λr=>f (M r)) (λr=>f (y r)) p).bind λo=>F (λp=>f (y p)) (λp=>f (M p)) o).bind λm=>F (λn=>f (y n)) (λn=>f (M n)) m).bind λi=>F (λj=>f (y j)) (λj=>f (M j)) i).bind λd=>F (λe=>f (y e)) (λe=>f (M e)) d).bind λc=>F (λd=>f (Step.done (y d))) (λd=>f (Step.next (d.1,d.2.1,Ut (d.2.2.1+1),d.2.2.2))) c else f (Step.done (M (a.2.2.2.1,a.2.2.2.2.1)))
def q6d(A:zuj)(B:zuh)(C:zo3)(D:zpM)(E:WK)(G:tA8)(H:zfr)(I:zhF)(x:zvJ):Us zO:=(lpO (q1y A B C D E G H I) (x.1,Sl.len x.1,0,x.2.1,x.2.2,qf.mk (lit []) 1 0)).bind λa=>F (λb=>f (y b)) (λb=>f (M b)) a
def q51(h:zcb):zcb:=q6d q21 q2z q1t q3u q14 q1r q1f h
theorem qhv(h:zcb):@Eq zcb (ziG h) (q51 h):=by delta q51;rw[<-qj9,<-qjt,<-qg1,<-qkp,<-q2t,<-qhu,<-qdh];kernel_rfl
def q2b:Nat->zvJ->Us zO
  |0=>λ_=>W
  |k+1=>q51 (q2b k)
theorem qeg:∀k,@Eq zcb (zf3 k) (q2b k)
  |0=>rfl
  |k+1=>(qhv (zf3 k)).trans (congrArg q51 (qeg k))
def q3r:zcb:=q2b 100000
theorem qih:@Eq zcb zyj q3r:=qeg 100000
def qeq(x:q6):Us q6:=if q (x.K_.len=0)=g then f (q6.mk 0 (lit []) 0 0 (O [] N)) else(zb x.K_ 0).bind λa=>f (kg a)
def qah:zjR:=qeq
theorem qlg:@Eq zjR zkU.F qah:=by kernel_rfl
def qh5(x:q6):Us qt:=f (qt.mk x.T_ x.n_)
def qae:zcp:=qh5
theorem qhw:@Eq zcp zhj.F qae:=by kernel_rfl
def qgg(A:zcp)(x:q6×Int):Us qt:=if q (x.1.K_.len<=x.2)=g then f (qt.mk (lit []) 0) else(zb x.1.K_ x.2).bind λa=>(A (kg a)).bind λb=>f b
def q3m:zqf:=qgg qae
theorem qja:@Eq ((q6×Int)->Us qt) zfc.F q3m:=by delta q3m;rw[<-qhw];kernel_rfl
def qdm(A:zcp):zp4->Us (Step zp4 (Sl qt)):=λa=>if q (a.2.2.1 < a.2.1)=g then(zb a.1 a.2.2.1).bind λb=>(A (kg b)).bind λc=>(zp 24 a.2.2.2 [c]).bind λd=>f (Step.next (a.1,a.2.1,Ut (a.2.2.1+1),d)) else f (Step.done a.2.2.2)
def qh6(A:zcp)(x:q6):Us (Sl qt):=(lpO (qdm A) (x.K_,x.K_.len,0,O [] N)).bind λa=>f a
def qbh:zjC:=qh6 qae
theorem qkw:@Eq zjC zkV.F qbh:=by delta qbh;rw[<-qhw];kernel_rfl
def qbo(x:qi×Ue):Us vJ:=(zp 136 x.2 [x.1]).bind λa=>f (Ut (a.len - 1),a)
def q2l:qi×Ue->Us vJ:=qbo
theorem qcv:@Eq ((qi×Sl qi)->Us vJ) zbS.F q2l:=by kernel_rfl
def qbp(A:zqf)(B:zjC)(C:zcp)(D:zgD)(x:zjM):Us Ue:=(if q (x.2.1.k_=21)=g then f (x.2.1.k_,q (x.2.1.k_=21),x.2.2,kg x.2.1,0,x.1.a_,x.1.T_,lit [],lit [],0,lit [],0,0,N) else f (x.2.1.k_,q (x.2.1.k_=22),x.2.2,kg x.2.1,0,x.1.a_,x.1.T_,lit [],lit [],0,lit [],0,0,N)).bind λa=>(if a.2.1=g then(A (kg a.2.2.2.1,0)).bind λb=>(A (kg a.2.2.2.1,1)).bind λc=>f (a.2.2.1,(Ut (1+Ut (a.2.2.2.1.k_ - 21)),a.2.2.2.2.2.1,a.2.2.2.2.2.2.1,a.2.2.2.2.2.2.2.1,b.N_,b.n_,c.N_,c.n_,a.2.2.2.2.2.2.2.2.2.2.2.2),O [] N) else(if q (a.1=23)=g then f (a.2.2.1,(3,a.2.2.2.2.2.1,a.2.2.2.2.2.2.1,a.2.2.2.2.2.2.2.1,lit [],a.2.2.2.1.n_,a.2.2.2.2.2.2.2.2.2.2),O [] N) else(if q (a.1=24)=g then f (a.2.2.1,(4,a.2.2.2.2.2.1,a.2.2.2.2.2.2.1,a.2.2.2.2.2.2.2.1,a.2.2.2.1.T_,0,a.2.2.2.2.2.2.2.2.2.2),O [] N) else(if q (a.1=25)=g then(A (kg a.2.2.2.1,0)).bind λd=>f (a.2.2.1,(5,a.2.2.2.2.2.1,a.2.2.2.2.2.2.1,a.2.2.2.1.T_,d.N_,d.n_,a.2.2.2.2.2.2.2.2.2.2),O [] N) else(if q (a.1=28)=g then(B (kg a.2.2.2.1)).bind λe=>f (a.2.2.1,(12,a.2.2.2.2.2.1,a.2.2.2.2.2.2.1,a.2.2.2.1.T_,a.2.2.2.2.2.2.2.2),e) else(if q (a.1=26)=g then f (q (a.1=26),a.2.2.1,kg a.2.2.2.1,a.2.2.2.2) else f (q (a.1=27),a.2.2.1,kg a.2.2.2.1,a.2.2.2.2)).bind λi=>(if i.1=g then f (i.2.1,i.2.2.2.1,i.2.2.2.2.1,i.2.2.2.2.2.1,i.2.2.2.2.2.2.1,i.2.2.1.T_,0,i.2.2.2.2.2.2.2.2.2) else(C (kg i.2.2.1)).bind λj=>f (i.2.1,i.2.2.2.1,i.2.2.2.2.1,i.2.2.2.2.2.1,i.2.2.2.2.2.2.1,j.N_,j.n_,i.2.2.2.2.2.2.2.2.2)).bind λj=>f (j.1,j.2,O [] N)).bind λe=>f e).bind λd=>f d).bind λd=>f d).bind λd=>f d).bind λb=>(D (qi.mk b.2.1.1 b.2.1.2.1 b.2.1.2.2.1 b.2.1.2.2.2.1 (qt.mk b.2.1.2.2.2.2.1 b.2.1.2.2.2.2.2.1) (qt.mk b.2.1.2.2.2.2.2.2.1 b.2.1.2.2.2.2.2.2.2.1) b.2.2 b.2.1.2.2.2.2.2.2.2.2.1 b.2.1.2.2.2.2.2.2.2.2.2,b.1)).bind λc=>f c.2
def q6h:zjM->Us Ue:=qbp q3m qbh qae q2l
theorem qkz:@Eq ((zjM)->Us (Sl qi)) zor.F q6h:=by delta q6h;rw[<-qja,<-qkw,<-qhw,<-qcv];kernel_rfl
def q4n(A:zqf)(B:zgD)(C:zej)(x:q6×Ue):Us Ue:=if q (x.1.K_.len < 3)=g then f x.2 else(A (kg x.1,0)).bind λa=>(A (kg x.1,1)).bind λb=>(B (qi.mk 10 x.1.a_ x.1.T_ (lit []) a b (O [] N) 0 N,x.2)).bind λc=>(zb x.1.K_ 2).bind λd=>(C (kg d,c.2)).bind λe=>(B (qi.mk 11 x.1.a_ (lit []) (lit []) (qt.mk (lit []) 0) (qt.mk (lit []) 0) (O [] N) c.1 N,e)).bind λi=>(zb i.2 c.1).bind λj=>(zb i.2 c.1).bind λl=>(if q (x.1.k_=15)=g then f (i.1,q (3 < x.1.K_.len),kg x.1,Sl.set i.2 c.1 (qi.mk l.O_ l.a_ l.X_ l.Y_ l.A_ l.B_ l.Q_ (Sl.len i.2) l.h_)) else f (i.1,N,kg x.1,Sl.set i.2 c.1 (qi.mk l.O_ l.a_ l.X_ l.Y_ l.A_ l.B_ l.Q_ (Sl.len i.2) l.h_))).bind λm=>(if m.2.1=g then(zb m.2.2.1.K_ 3).bind λn=>(C (kg n,m.2.2.2)).bind λo=>(zb o m.1).bind λp=>(zb o m.1).bind λr=>f (o.set m.1 (qi.mk r.O_ r.a_ r.X_ r.Y_ r.A_ r.B_ r.Q_ o.len r.h_)) else f m.2.2.2).bind λn=>f n
def q2f(h:yI):yI:=q4n q3m q2l h
theorem qg2(h:yI):@Eq yI (ziH h) (q2f h):=by delta q2f;rw[<-qja,<-qcv];kernel_rfl
def q5i(A:zjR)(B:zjM->Us Ue)(C:zej)(D:zqf)(E:zjC)(G:zgD)(x:q6×Ue):Us Ue:=(if q (x.1.k_=10)=g then(A (kg x.1)).bind λa=>(B (kg x.1,kg a,x.2)).bind λb=>f (y b) else(if q (x.1.k_=15)=g then f (x.1.k_,q (x.1.k_=15),x.2,kg x.1,0,x.1.a_,lit [],x.1.T_,lit [],0,lit [],0,0,N) else f (x.1.k_,q (x.1.k_=16),x.2,kg x.1,0,x.1.a_,lit [],x.1.T_,lit [],0,lit [],0,0,N)).bind λ(c:zzI)=>if c.2.1=g then(C (kg c.2.2.2.1,c.2.2.1)).bind λd=>f (y d) else(if q (c.1=11)=g then(D (kg c.2.2.2.1,0)).bind λe=>(D (kg c.2.2.2.1,1)).bind λi=>f (c.2.2.1,(6,c.2.2.2.2.2.1,c.2.2.2.2.2.2.1,c.2.2.2.2.2.2.2.1,e.N_,e.n_,i.N_,i.n_,c.2.2.2.2.2.2.2.2.2.2.2.2),O [] N) else(if q (c.1=12)=g then f (c.2.2.1,(7,c.2.2.2.2.2),O [] N) else(if q (c.1=13)=g then f (c.2.2.1,(8,c.2.2.2.2.2.1,c.2.2.2.2.2.2.1,c.2.2.2.2.2.2.2.1,lit [],c.2.2.2.1.n_,c.2.2.2.2.2.2.2.2.2.2),O [] N) else(if q (c.1=14)=g then f (c.2.2.1,(9,c.2.2.2.2.2.1,c.2.2.2.2.2.2.1,c.2.2.2.2.2.2.2.1,lit [],c.2.2.2.1.n_,c.2.2.2.2.2.2.2.2.2.2),O [] N) else(if q (c.1=20)=g then(A (kg c.2.2.2.1)).bind λj=>(A (kg c.2.2.2.1)).bind λl=>(E (kg l)).bind λm=>f (c.2.2.1,(12,c.2.2.2.2.2.1,c.2.2.2.2.2.2.1,j.T_,c.2.2.2.2.2.2.2.2),m) else(if q (c.1=19)=g then(E (kg c.2.2.2.1)).bind λn=>f (c.2.2.1,(13,c.2.2.2.2.2),n) else(if q (c.1=17)=g then(D (kg c.2.2.2.1,0)).bind λo=>f (c.2.2.1,14,c.2.2.2.2.2.1,c.2.2.2.2.2.2.1,lit [],o.N_,o.n_,c.2.2.2.2.2.2.2.2.2.2.1,c.2.2.2.2.2.2.2.2.2.2.2.1,c.2.2.2.2.2.2.2.2.2.2.2.2.1,q (0 < c.2.2.2.1.K_.len)) else f (c.2.2.1,15,c.2.2.2.2.2.1,c.2.2.2.2.2.2.1,lit [],c.2.2.2.2.2.2.2.2)).bind λ(o:zzQ)=>f (o.1,o.2,O [] N)).bind λ(n:vn)=>f n).bind λ(j:vn)=>f j).bind λ(j:vn)=>f j).bind λ(j:vn)=>f j).bind λ(j:vn)=>f j).bind λ(e:vn)=>f (M e)).bind λ(a:Sl qi⊕Sl qi×(Int×Int×Uq×Uq×Uq×Int×Uq×Int×Int×Bool)×Sl qt)=>F (λb=>f b) (λb=>(G (qi.mk b.2.1.1 b.2.1.2.1 b.2.1.2.2.1 b.2.1.2.2.2.1 (qt.mk b.2.1.2.2.2.2.1 b.2.1.2.2.2.2.2.1) (qt.mk b.2.1.2.2.2.2.2.2.1 b.2.1.2.2.2.2.2.2.2.1) b.2.2 b.2.1.2.2.2.2.2.2.2.2.1 b.2.1.2.2.2.2.2.2.2.2.2,b.1)).bind λc=>f c.2) a
def q1w(h:yI):yI:=q5i qah q6h (q2f h) q3m qbh q2l
theorem qgi(h:yI):@Eq yI (ziI h) (q1w h):=by delta q1w;rw[<-qlg,<-qkz,<-qg2 h,<-qja,<-qkw,<-qcv];kernel_rfl
def q7r(A:zej):zp5->Us (Step zp5 Ue):=λa=>if q (a.2.2.1 < a.2.1)=g then(zb a.1 a.2.2.1).bind λb=>(A (kg b,a.2.2.2)).bind λc=>f (Step.next (a.1,a.2.1,Ut (a.2.2.1+1),c)) else f (Step.done a.2.2.2)
def q7w(A:zej)(x:q6×Ue):Us Ue:=(lpO (q7r A) (x.1.K_,x.1.K_.len,0,x.2)).bind λa=>f a
def q68(h:yI):yI:=q7w (q1w h)
theorem qju(h:yI):@Eq yI (ziJ h) (q68 h):=by delta q68;rw[<-qgi h];kernel_rfl
def q2j:Nat->(q6×Sl qi)->Us (Sl qi)
  |0=>λ_=>W
  |k+1=>q68 (q2j k)
theorem qao:∀k,@Eq yI (zf5 k) (q2j k)
  |0=>rfl
  |k+1=>(qju (zf5 k)).trans (congrArg q68 (qao k))
def q8r:yI:=q2j 100000
theorem qka:@Eq yI zyp q8r:=qao 100000
def qcy(A:zej)(B:zgD):zgw->Us (Step zgw zvI):=λa=>if q (a.2.2.1 < a.2.1)=g then(zb a.1 a.2.2.1).bind λb=>(if q (b.k_=7)=g then(zp 16 a.2.2.2.2.2.1 [b.T_]).bind λc=>f (a.1,a.2.1,a.2.2.1,a.2.2.2.1,a.2.2.2.2.1,c,a.2.2.2.2.2.2) else(if q (b.k_=9)=g then(A (kg b,a.2.2.2.2.2.2)).bind λd=>(B (qi.mk 14 b.a_ (lit []) (lit []) (qt.mk (lit []) 0) (qt.mk (lit []) 0) (O [] N) 0 N,d)).bind λe=>f (a.1,a.2.1,a.2.2.1,a.2.2.2.1,a.2.2.2.2.1,a.2.2.2.2.2.1,e.2) else f a).bind λd=>f d).bind λc=>f (Step.next (c.1,c.2.1,Ut (c.2.2.1+1),c.2.2.2)) else f (Step.done a.2.2.2)
def qer(A:zej)(B:zgD)(x:q6):Us q1e:=if q (x.k_≠6)=g then f (q1e.mk (lit []) (O [] N) (O [] N)) else(lpO (qcy A B) (x.K_,x.K_.len,0,lit [],x.T_,O [] N,O [] N)).bind λa=>f (q1e.mk a.2.1 a.2.2.1 a.2.2.2)
def q5j:zco:=qer q8r q2l
theorem qkb:@Eq zco zos.F q5j:=by delta q5j;rw[<-qka,<-qcv];kernel_rfl
def qab(A:WK)(x:zpt):Us zO:=(A (x.2.1,x.2.2.1,(x.2.2.2.1.1,x.2.2.2.1.2.1,x.1.a_,x.2.2.2.1.2.2.2),x.2.2.2.2)).bind λa=>F (λb=>f (y b)) (λb=>f (M b)) a
def q3k:zpt->Us zO:=qab q14
theorem qhb:@Eq ((zpt)->Us zO) zs7.F q3k:=by delta q3k;rw[<-q2t];kernel_rfl
def qcr(x:zjl):Us Yg:=f (x.1.1,x.1.2,x.2.2.2)
def q66:zjl->Us Yg:=qcr
theorem qjw:@Eq ((zjl)->Us Yg) zta q66:=by kernel_rfl
def qbk(x:Yg):Us Yg:=f x
def q5f:Yg->Us Yg:=qbk
theorem qii:@Eq ((Yg)->Us Yg) ztd q5f:=by kernel_rfl
def q6s(A:zlM)(B:zui)(C:zpp)(D:zhF)(E:zco)(G:zug)(H:zpE):zaf->Us (Step zaf ziW):=λa=>if q (a.2.2.1 < a.2.1)=g then((zb a.1 a.2.2.1).bind λb=>(A (kg b,q (b.k_=6),50,a.2.2.2.2.2.2)).bind λc=>F (λd=>f (y (d.1,kg a.2.2.2.1,a.2.2.2.2.1,a.2.2.2.2.2.1))) (λd=>(yK ((B (kg b,d)).bind λe=>F (λi=>f (y (i.1,kg a.2.2.2.1,a.2.2.2.2.1,a.2.2.2.2.2.1))) (λi=>(zp 48 i.2.2.1 [qb.mk i.1.1 i.1.2 i.2.2.2]).bind λj=>f (M (a.1,a.2.1,a.2.2.1,kg a.2.2.2.1,a.2.2.2.2.1,a.2.2.2.2.2.1,i.2.1,j))) e) ((B (kg b,d)).bind λe=>F (λi=>f (y (i.1,kg a.2.2.2.1,a.2.2.2.2.1,a.2.2.2.2.2.1))) (λi=>yK ((zp 48 i.2.2.1 [qb.mk i.1.1 i.1.2 i.2.2.2]).bind λj=>f (M (a.1,a.2.1,a.2.2.1,kg a.2.2.2.1,a.2.2.2.2.1,a.2.2.2.2.2.1,i.2.1,j))) ((zp 48 i.2.2.1 [qb.mk i.1.1 i.1.2 i.2.2.2]).bind λj=>f (M (a.1,a.2.1,a.2.2.1,kg a.2.2.2.1,a.2.2.2.2.1,a.2.2.2.2.2.1,i.2.1,j)))) e)).bind λe=>F (λi=>f (y (i.1,kg i.2.1,i.2.2))) (λi=>f (M (i.1,i.2.1,i.2.2.1,kg i.2.2.2.1,i.2.2.2.2))) e) c).bind λb=>F (λc=>f (Step.done (y (c.1,kg c.2.1,c.2.2)))) (λc=>f (Step.next (c.1,c.2.1,Ut (c.2.2.1+1),kg c.2.2.2.1,c.2.2.2.2))) b else f (Step.done (M (kg a.2.2.2.1,a.2.2.2.2)))
def q6t(A:zlM)(B:zui)(C:zpp)(D:zhF)(E:zco)(G:zug)(H:zpE):zaf->Us (Step zaf ziW):=λa=>if q (a.2.2.1 < a.2.1)=g then((zb a.1 a.2.2.1).bind λb=>(zb a.2.2.2.2.2.2.2 a.2.2.1).bind λc=>(zb b.K_ (Ut (b.K_.len - 1))).bind λd=>(D (d.K_,(a.2.2.2.2.2.2.1.1,a.2.2.2.2.2.2.1.2.1,a.2.2.2.2.2.2.1.2.2,a.2.2.1),a.2.2.2.2.2.2.2)).bind λe=>F (λi=>f (y (i.1,kg a.2.2.2.1,a.2.2.2.2.1,a.2.2.2.2.2.1))) (λi=>((zb i.2 i.1.2.2.2).bind λj=>(zb i.2 i.1.2.2.2).bind λl=>if q (l.V_.len<=64)=g then(E (kg b)).bind λm=>(G (kg b,q (m.L_.len<=512),22,i)).bind λn=>F (λo=>f (y (o.1,kg a.2.2.2.1,a.2.2.2.2.1,a.2.2.2.2.2.1))) (λo=>f (M (a.1,a.2.1,a.2.2.1,kg a.2.2.2.1,a.2.2.2.2.1,a.2.2.2.2.2.1,o))) n else(G (kg b,N,22,i)).bind λo=>F (λp=>f (y (p.1,kg a.2.2.2.1,a.2.2.2.2.1,a.2.2.2.2.2.1))) (λp=>f (M (a.1,a.2.1,a.2.2.1,kg a.2.2.2.1,a.2.2.2.2.1,a.2.2.2.2.2.1,p))) o).bind λj=>F (λl=>f (y (l.1,kg l.2.1,l.2.2))) (λl=>f (M (l.1,l.2.1,l.2.2.1,kg l.2.2.2.1,l.2.2.2.2))) j) e).bind λb=>F (λc=>f (Step.done (y (c.1,kg c.2.1,c.2.2)))) (λc=>f (Step.next (c.1,c.2.1,Ut (c.2.2.1+1),kg c.2.2.2.1,c.2.2.2.2.1,c.2.2.2.2.2.1,(c.2.2.2.2.2.2.1.1,c.2.2.2.2.2.2.1.2.1,c.2.2.2.2.2.2.1.2.2.1),c.2.2.2.2.2.2.2))) b else f (Step.done (M (kg a.2.2.2.1,a.2.2.2.2)))
def qdw(A:zlM)(B:zui)(C:zpp)(D:zhF)(E:zco)(G:zug)(H:zpE)(x:zqh):Us Yg:=(lpO (q6s A B C D E G H) (x.1.K_,x.1.K_.len,0,kg x.1,0,0,(x.2.1,x.2.2,0),O [] N)).bind λa=>F (λb=>(C (b.1,b.2.2.1,b.2.2.2,O [] N)).bind λc=>f (c.1,c.2.1,O [] N)) (λb=>(lpO (q6t A B C D E G H) (b.1.K_,b.1.K_.len,0,kg b.1,b.2)).bind λc=>F (λd=>(C (d.1,d.2.2.1,d.2.2.2,O [] N)).bind λe=>f (e.1,e.2.1,O [] N)) (λd=>(H (0,0,d.2.2.2.2)).bind λe=>f e) c) a
def q4r:zqh->Us Yg:=qdw q1x q37 q66 q3r q5j q3k q5f
theorem qes:@Eq ((zqh)->Us Yg) zyx q4r:=by delta q4r;rw[<-qef,<-qj7,<-qjw,<-qih,<-qkb,<-qhb,<-qii];kernel_rfl
def q4d(A:zec)(B:zjm)(C:zvO)(D:zed)(E:zjn)(G:zvP):ziS->Us (Step ziS zvo):=λa=>if q (a.2.2.2.2.1 < a.2.2.2.1)=g then(zb a.2.2.1 a.2.2.2.2.1).bind λb=>(if q (b.k_=6)=g then(zp 64 a.2.2.2.2.2.2.2.2.2.1 [kg b]).bind λc=>(zb a.2.2.2.2.2.2.1.K_ a.2.2.2.2.1).bind λd=>(zp 64 a.2.2.2.2.2.2.2.2.2.2 [kr d]).bind λe=>f (a.1,a.2.1,a.2.2.1,a.2.2.2.1,a.2.2.2.2.1,a.2.2.2.2.2.1,kr a.2.2.2.2.2.2.1,a.2.2.2.2.2.2.2.1,a.2.2.2.2.2.2.2.2.1,c,e) else f (a.1,a.2.1,a.2.2.1,a.2.2.2.1,a.2.2.2.2.1,a.2.2.2.2.2.1,kr a.2.2.2.2.2.2.1,a.2.2.2.2.2.2.2)).bind λc=>f (Step.next (c.1,c.2.1,c.2.2.1,c.2.2.2.1,Ut (c.2.2.2.2.1+1),c.2.2.2.2.2.1,kr c.2.2.2.2.2.2.1,c.2.2.2.2.2.2.2)) else f (Step.done (a.1,a.2.1,a.2.2.2.2.2.1,a.2.2.2.2.2.2.2))
def q75(A:zec)(B:zjm)(C:zvO)(D:zed)(E:zjn)(G:zvP)(x:Zq):Us (q10×Bool):=(A x).bind λa=>if q (a.2.2≠0)=g then f (q10.mk (O [] N) (O [] N) (O [] N) (O [] N) (O [] N) (O [] N),N) else(B (kg a.1)).bind λb=>(C (kg a.1,b.2.2)).bind λc=>(D x).bind λd=>(E (kr d.1)).bind λe=>(G (kr d.1,e.2.2)).bind λi=>(lpO (q4d A B C D E G) (b.2.1,c.2.1,a.1.K_,a.1.K_.len,0,c.2.2,kr d.1,i.2.2,(b.2.2,e.2.2),O [] N,O [] N)).bind λj=>(if q (j.1=0)=g then if q (j.2.1=0)=g then if q (Sl.len j.2.2.1=Sl.len j.2.2.2.2.2.1)=g then f (q (Sl.len j.2.2.2.1=Sl.len j.2.2.2.2.2.1),j.2.2.2.2.1,j.2.2.2.2.2.1,j.2.2.1,j.2.2.2.2.2.2,j.2.2.2.1) else f (N,j.2.2.2.2.1,j.2.2.2.2.2.1,j.2.2.1,j.2.2.2.2.2.2,j.2.2.2.1) else f (N,j.2.2.2.2.1,j.2.2.2.2.2.1,j.2.2.1,j.2.2.2.2.2.2,j.2.2.2.1) else f (N,j.2.2.2.2.1,j.2.2.2.2.2.1,j.2.2.1,j.2.2.2.2.2.2,j.2.2.2.1)).bind λl=>f (q10.mk l.2.2.1 l.2.1.1 l.2.2.2.1 l.2.2.2.2.1 l.2.1.2 l.2.2.2.2.2,l.1)
def q30:zjo:=q75 q3i q5k q6b q24 q2i q2e
theorem qhe:@Eq zjo ztg.F q30:=by delta q30;rw[<-qaf,<-qjg,<-qkv,<-qc6,<-qfd,<-qfz];kernel_rfl
def q9g(x:zi2):Us ZB:=(if q (x.2.2.1.2.2.2=0)=g then f ((x.2.2.1.1,x.2.2.1.2.1,x.1,x.2.1),x.2.2.2) else f x.2.2).bind λa=>f a
def q17:zi2->Us ZB:=q9g
theorem qcw:@Eq ((zi2)->Us ZB) zfd.F q17:=by kernel_rfl
def q5g:zpK->Us (Step zpK zvp):=λa=>if q (a.2.1 < Sl.len a.2.2.2)=g then(zb a.2.2.2 a.2.1).bind λb=>(zb a.2.2.2 a.2.1).bind λc=>if q (c.N_=a.1)=g then f (Step.done (y a.2)) else f (Step.next (a.1,Ut (a.2.1+1),a.2.2)) else f (Step.done (M a.2.2))
def q9h(x:zje):Us zee:=(lpO q5g (x.1,0,x.2)).bind λa=>F (λb=>f b) (λb=>f (-1,b)) a
def q40:zje->Us zee:=q9h
theorem qjc:@Eq ((zje)->Us zee) zot.F q40:=by kernel_rfl
def q5h(A:zdy)(B:zu8)(C:vE):zuw->Us (Step zuw zzO):=λa=>if q (a.2.1 < a.1)=g then(zb a.2.2.2.2.1.K_ a.2.1).bind λb=>(zb b.K_ 0).bind λc=>(B (b.T_,a.2.2.2.2.2.2)).bind λd=>(if q (0<=d.1)=g then(A (b.a_,30,a.2.2.1,a.2.2.2.1)).bind λe=>f (a.1,a.2.1,e.1,e.2,kr a.2.2.2.2.1,a.2.2.2.2.2.1,d.2.1,kr b,kr c,d.2.2) else f (a.1,a.2.1,a.2.2.1,a.2.2.2.1,kr a.2.2.2.2.1,a.2.2.2.2.2.1,d.2.1,kr b,kr c,d.2.2)).bind λe=>(if q (e.2.2.2.2.2.2.2.2.1.T_=lit [38])=g then f (e.1,e.2.1,g,e.2.2.1,e.2.2.2.1,kr e.2.2.2.2.1,e.2.2.2.2.2.1,e.2.2.2.2.2.2.1,kr e.2.2.2.2.2.2.2.2.1,qh.mk e.2.2.2.2.2.2.2.1.T_ 1 0,e.2.2.2.2.2.2.2.2.2) else f (e.1,e.2.1,q (e.2.2.2.2.2.2.2.2.1.T_=lit [38,109,117,116]),e.2.2.1,e.2.2.2.1,kr e.2.2.2.2.1,e.2.2.2.2.2.1,e.2.2.2.2.2.2.1,kr e.2.2.2.2.2.2.2.2.1,qh.mk e.2.2.2.2.2.2.2.1.T_ 1 0,e.2.2.2.2.2.2.2.2.2)).bind λi=>(if i.2.2.1=g then(A (i.2.2.2.2.2.2.2.2.1.a_,34,i.2.2.2.1,i.2.2.2.2.1)).bind λj=>f (i.1,i.2.1,j.1,j.2,kr i.2.2.2.2.2.1,i.2.2.2.2.2.2.1,i.2.2.2.2.2.2.2.1,kr i.2.2.2.2.2.2.2.2.1,i.2.2.2.2.2.2.2.2.2) else f (i.1,i.2.1,i.2.2.2.1,i.2.2.2.2.1,kr i.2.2.2.2.2.1,i.2.2.2.2.2.2.1,i.2.2.2.2.2.2.2.1,kr i.2.2.2.2.2.2.2.2.1,i.2.2.2.2.2.2.2.2.2)).bind λj=>(if q (j.2.2.2.2.2.2.2.1.T_=lit [111,119,110])=g then(zb j.2.2.2.2.2.2.2.1.K_ 0).bind λl=>(C (j.2.2.1.2.1,l.T_)).bind λm=>(if q (m < 0)=g then(A (j.2.2.2.2.2.2.2.1.a_,31,j.2.2.1,j.2.2.2.1)).bind λn=>f (j.1,j.2.1,n.1,n.2,kr j.2.2.2.2.1,j.2.2.2.2.2.1,j.2.2.2.2.2.2.1,qh.mk j.2.2.2.2.2.2.2.2.1.N_ 2 m,j.2.2.2.2.2.2.2.2.2) else f (j.1,j.2.1,j.2.2.1,j.2.2.2.1,kr j.2.2.2.2.1,j.2.2.2.2.2.1,j.2.2.2.2.2.2.1,qh.mk j.2.2.2.2.2.2.2.2.1.N_ 2 m,j.2.2.2.2.2.2.2.2.2)).bind λn=>f (n.1,n.2.1,n.2.2.1,n.2.2.2.1,kr n.2.2.2.2.1,n.2.2.2.2.2) else f (j.1,j.2.1,j.2.2.1,j.2.2.2.1,kr j.2.2.2.2.1,j.2.2.2.2.2.1,j.2.2.2.2.2.2.1,j.2.2.2.2.2.2.2.2)).bind λl=>(zp 32 l.2.2.2.2.2.2.2.2 [l.2.2.2.2.2.2.2.1]).bind λm=>f (Step.next (l.1,Ut (l.2.1+1),l.2.2.1,l.2.2.2.1,kr l.2.2.2.2.1,l.2.2.2.2.2.1,l.2.2.2.2.2.2.1,m)) else f (Step.done (a.1,a.2.2.1,a.2.2.2.1,kr a.2.2.2.2.1,a.2.2.2.2.2))
def q9i(A:zdy)(B:zu8)(C:vE)(x:zgB):Us ziY:=if q (8 < Ut (x.1.K_.len - 2))=g then(A (x.1.a_,22,x.2)).bind λa=>f ((x.1.T_,Ut (x.1.K_.len - 2)),a.1,a.2,O [] N) else(lpO (q5h A B C) (Ut (x.1.K_.len - 2),0,x.2.1,x.2.2,kr x.1,(lit [],0),(x.1.T_,Ut (x.1.K_.len - 2)),O [] N)).bind λb=>(zb b.2.2.2.1.K_ b.1).bind λc=>(if q (c.T_≠lit [])=g then(zb b.2.2.2.1.K_ b.1).bind λd=>(A (d.a_,35,b.2.1,b.2.2.1)).bind λe=>f (e.1,e.2,b.2.2.2.2) else f (b.2.1,b.2.2.1,b.2.2.2.2)).bind λd=>f (d.2.2.2.1,d.1,d.2.1,d.2.2.2.2)
def q41:zgB->Us ziY:=q9i q17 q40 q16
theorem qjd:@Eq ((zgB)->Us ziY) zti.F q41:=by delta q41;rw[<-qcw,<-qjc,<-qcu];kernel_rfl
def q4j:zp1->Us (Step zp1 zep):=λa=>(zb a.2.2.2 a.1).bind λb=>(zb a.2.2.2 a.1).bind λc=>if q (a.2.2.1 < c.V_.len)=g then(zb a.2.2.2 a.1).bind λd=>(zb a.2.2.2 a.1).bind λe=>(zb e.V_ a.2.2.1).bind λi=>(zb a.2.2.2 a.1).bind λj=>(zb j.V_ a.2.2.1).bind λl=>if q (l.N_=a.2.1)=g then f (Step.done (y a.2.2)) else f (Step.next (a.1,a.2.1,Ut (a.2.2.1+1),a.2.2.2)) else f (Step.done (M a.2.2.2))
def q7j(x:zcl):Us Z5:=(lpO q4j (x.1,x.2.1,0,x.2.2)).bind λa=>F (λb=>f b) (λb=>f (-1,b)) a
def q2c:zcl->Us Z5:=q7j
theorem qei:@Eq ((zcl)->Us Z5) zkW.F q2c:=by kernel_rfl
def q9b(A:zpF)(x:zcl):Us zat:=(A x).bind λa=>if q (a.1 < 0)=g then f (qh.mk (lit []) 0 0,31,a.2) else(zb a.2 x.1).bind λb=>(zb a.2 x.1).bind λc=>(zb c.V_ a.1).bind λd=>(zb a.2 x.1).bind λe=>(zb e.V_ a.1).bind λi=>(zb a.2 x.1).bind λj=>(zb a.2 x.1).bind λl=>(zb l.V_ a.1).bind λm=>(zb a.2 x.1).bind λn=>(zb n.V_ a.1).bind λo=>f (qh.mk (lit []) i.M_ o.t_,0,a.2)
def q4o:zcl->Us zat:=q9b q2c
theorem qg4:@Eq ((zcl)->Us zat) zou.F q4o:=by delta q4o;rw[<-qei];kernel_rfl
def q9c(A:zvu)(x:zqe):Us Z5:=(if q (x.2.1.T_=lit [])=g then if q (x.2.2.1.M_=1)=g then f (y (0,x.2.2.2)) else f (y (40,x.2.2.2)) else f (M (x.1,x.2.2.2,kr x.2.1,x.2.2.1))).bind λa=>F (λb=>f b) (λb=>(A (b.1,b.2.2.1.T_,b.2.1)).bind λc=>if q (c.2.1≠0)=g then f c.2 else(if q (b.2.2.2.M_=1)=g then if q (c.1.M_=1)=g then f (y (0,c.2.2)) else f (y (40,c.2.2)) else f (M (c.2.2,kr b.2.2.1,b.2.2.2,c.1))).bind λd=>F (λe=>f e) (λe=>(if q (e.2.2.1.M_=3)=g then f (q (e.2.2.2.M_=4),e.1,kr e.2.1,e.2.2) else f (N,e.1,kr e.2.1,e.2.2)).bind λi=>(if q (i.2.2.1.n_≠0)=g then f (g,i.2.1) else if q (i.2.2.2.2.t_≠i.2.2.2.1.t_)=g then f (g,i.2.1) else if q (i.2.2.2.2.M_≠i.2.2.2.1.M_)=g then f (!i.1,i.2.1) else f (N,i.2.1)).bind λj=>if j.1=g then f (40,j.2) else f (0,j.2)) d) a
def q1h:zqe->Us Z5:=q9c q4o
theorem qcx:@Eq ((zqe)->Us Z5) zkX.F q1h:=by delta q1h;rw[<-qg4];kernel_rfl
def q6u(A:zd6):zpV->Us (Step zpV zep):=λa=>if q (a.2.2.2.1 < Sl.len a.2.1)=g then(zb a.2.1 a.2.2.2.1).bind λb=>(zb a.2.2.1 a.2.2.2.1).bind λc=>(A (a.1,kr b,c,a.2.2.2.2)).bind λd=>if q (d.1≠0)=g then f (Step.done (y d)) else f (Step.next (a.1,a.2.1,a.2.2.1,Ut (a.2.2.2.1+1),d.2)) else f (Step.done (M a.2.2.2.2))
def q9d(A:zd6)(x:zp2):Us Z5:=if q (Sl.len x.2.1≠Sl.len x.2.2.1)=g then f (51,x.2.2.2) else(lpO (q6u A) (x.1,x.2.1,x.2.2.1,0,x.2.2.2)).bind λa=>F (λb=>f b) (λb=>f (0,b)) a
def q38:zp2->Us Z5:=q9d q1h
theorem qje:@Eq ((zp2)->Us Z5) ztk.F q38:=by delta q38;rw[<-qcx];kernel_rfl
def q4b(A:zvx):zpr->Us (Step zpr zzR):=λa=>if q (a.2.1 < Sl.len a.2.2.1.1)=g then(zb a.2.2.1.1 a.2.1).bind λb=>if q (b.N_=a.2.2.2.2.1.T_)=g then(zb a.2.2.1.1 a.2.1).bind λc=>(A (a.1,a.2.2.2.2.1.K_,c.P_,a.2.2.2.1)).bind λd=>(zb a.2.2.1.1 a.2.1).bind λe=>f (Step.done (y (d.1,a.2.2.1,d.2,e.R_))) else f (Step.next (a.1,Ut (a.2.1+1),a.2.2.1,a.2.2.2.1,kr a.2.2.2.2.1,a.2.2.2.2.2)) else f (Step.done (M (a.2.2.1,a.2.2.2.1,a.2.2.2.2.2)))
def q9e(A:zvx)(x:xb):Us vD:=(lpO (q4b A) (x.1,0,x.2.2.1,x.2.2.2,kr x.2.1,qh.mk (lit []) 0 0)).bind λa=>F (λb=>f (b.2.2.2,b.1,b.2.1,b.2.2.1)) (λb=>f (qh.mk (lit []) 0 0,31,b.1,b.2.1)) a
def q2n:xb->Us vD:=q9e q38
theorem qg5:@Eq ((xb)->Us vD) zov.F q2n:=by delta q2n;rw[<-qje];kernel_rfl
def q9f(A:zvu)(B:zlO)(x:xb):Us vD:=(if q (x.2.1.k_=5)=g then if q (x.2.1.T_=lit [])=g then f (y (0,x.2.2.1,x.2.2.2,qh.mk (lit []) 1 0)) else(A (x.1,x.2.1.T_,x.2.2.2)).bind λa=>(if q (a.2.1=0)=g then if q (x.2.1.n_≠0)=g then f (a.2.1,q (a.1.M_≠1),x.2.2.1,a.2.2,qh.mk (lit []) 0 0,a.1) else f (a.2.1,N,x.2.2.1,a.2.2,qh.mk (lit []) 0 0,a.1) else f (a.2.1,N,x.2.2.1,a.2.2,qh.mk (lit []) 0 0,a.1)).bind λb=>(if b.2.1=g then f (40,b.2.2) else f (b.1,b.2.2)).bind λc=>f (y (c.1,c.2.1,c.2.2.1,c.2.2.2.2)) else(if q (x.2.1.k_=21)=g then f (x.1,x.2.1.k_,q (x.2.1.k_=21),x.2.2.1,x.2.2.2,kr x.2.1,qh.mk (lit []) 0 0,qh.mk (lit []) 1 0) else f (x.1,x.2.1.k_,q (x.2.1.k_=22),x.2.2.1,x.2.2.2,kr x.2.1,qh.mk (lit []) 0 0,qh.mk (lit []) 1 0)).bind λd=>(if d.2.2.1=g then(zb d.2.2.2.2.2.1.K_ 0).bind λe=>(A (d.1,e.T_,d.2.2.2.2.1)).bind λi=>if q (i.2.1≠0)=g then f (y (i.2.1,d.2.2.2.1,i.2.2,i.1)) else(zb d.2.2.2.2.2.1.K_ 1).bind λj=>(A (d.1,j.T_,i.2.2)).bind λl=>if q (l.2.1≠0)=g then f (y (l.2.1,d.2.2.2.1,l.2.2,l.1)) else(if q (i.1.M_≠1)=g then f (g,d.2.2.2.1,l.2.2,d.2.2.2.2.2.2.1,d.2.2.2.2.2.2.2,i.1) else f (q (l.1.M_≠1),d.2.2.2.1,l.2.2,d.2.2.2.2.2.2.1,d.2.2.2.2.2.2.2,i.1)).bind λm=>if m.1=g then f (y (40,m.2.1,m.2.2.1,m.2.2.2.2.2)) else f (y (0,m.2.1,m.2.2.1,m.2.2.2.2.1)) else(if q (d.2.1=26)=g then f (d.1,d.2.1,q (d.2.1=26),d.2.2.2.1,d.2.2.2.2.1,kr d.2.2.2.2.2.1,d.2.2.2.2.2.2) else f (d.1,d.2.1,q (d.2.1=27),d.2.2.2.1,d.2.2.2.2.1,kr d.2.2.2.2.2.1,d.2.2.2.2.2.2)).bind λn=>(if n.2.2.1=g then(A (n.1,n.2.2.2.2.2.1.T_,n.2.2.2.2.1)).bind λo=>if q (o.2.1≠0)=g then f (y (o.2.1,n.2.2.2.1,o.2.2,o.1)) else if q (o.1.M_≠2)=g then f (y (40,n.2.2.2.1,o.2.2,o.1)) else(if q (n.2.2.2.2.2.1.k_=27)=g then f (n.2.2.2.1,o.2.2,n.2.2.2.2.2.2.1,qh.mk o.1.N_ 4 o.1.t_) else f (n.2.2.2.1,o.2.2,n.2.2.2.2.2.2.1,qh.mk o.1.N_ 3 o.1.t_)).bind λp=>f (y (0,p.1,p.2.1,p.2.2.2)) else if q (n.2.1=28)=g then(B (n.1,kr n.2.2.2.2.2.1,n.2.2.2.1,n.2.2.2.2.1)).bind λr=>(if q (r.2.1=0)=g then f (r.2.1,q (r.1.M_=0),r.2.2.1,r.2.2.2,n.2.2.2.2.2.2.1,r.1) else f (r.2.1,N,r.2.2.1,r.2.2.2,n.2.2.2.2.2.2.1,r.1)).bind λs=>(if s.2.1=g then f (35,s.2.2) else f (s.1,s.2.2)).bind λt=>f (y (t.1,t.2.1,t.2.2.1,t.2.2.2.2)) else f (M (n.2.2.2.1,n.2.2.2.2.1,n.2.2.2.2.2.2))).bind λo=>F (λp=>f (y p)) (λp=>f (M p)) o).bind λe=>F (λi=>f (y i)) (λi=>f (M i)) e).bind λa=>F (λb=>f (b.2.2.2,b.1,b.2.1,b.2.2.1)) (λb=>f (b.2.2.2,50,b.1,b.2.1)) a
def q39:xb->Us vD:=q9f q4o q2n
theorem qjf:@Eq ((xb)->Us vD) ztl.F q39:=by delta q39;rw[<-qg4,<-qg5];kernel_rfl
def q3w(A:zd6):zpI->Us (Step zpI zep):=λa=>if q (a.2.2.2.1 < Sl.len a.2.1)=g then(zb a.2.1 a.2.2.2.1).bind λb=>(zb a.2.2.2.2 a.2.2.1.1).bind λc=>(Zd c.V_ a.2.2.1.2.1 a.2.2.1.2.2).bind λd=>(zb d a.2.2.2.1).bind λe=>(zb a.2.2.2.2 a.2.2.1.1).bind λi=>(zb i.V_ (a.2.2.1.2.1+a.2.2.2.1)).bind λj=>(A (a.1,kr b,j,a.2.2.2.2)).bind λl=>if q (l.1≠0)=g then f (Step.done (y l)) else f (Step.next (a.1,a.2.1,a.2.2.1,Ut (a.2.2.2.1+1),l.2)) else f (Step.done (M a.2.2.2.2))
def q7k(A:zd6)(x:zpL):Us Z5:=(zb x.2.2.2 x.2.2.1.1).bind λa=>(Zd a.V_ x.2.2.1.2.1 x.2.2.1.2.2).bind λb=>if q (Sl.len x.2.1≠x.2.2.1.2.2 - x.2.2.1.2.1)=g then f (51,x.2.2.2) else(lpO (q3w A) (x.1,x.2.1,x.2.2.1,0,x.2.2.2)).bind λc=>F (λd=>f d) (λd=>f (0,d)) c
def q2o:zpL->Us Z5:=q7k q1h
theorem qhx:@Eq ((zpL)->Us Z5) ztm.F q2o:=by delta q2o;rw[<-qcx];kernel_rfl
def q4p(A:zlO)(B:zpF)(C:zlO)(D:zvj)(E:zd6):zpz->Us (Step zpz zcf):=λa=>if q (a.2.1 < Sl.len a.2.2.2.1)=g then(zb a.2.2.2.1 a.2.1).bind λb=>(zb a.2.2.2.1 a.2.1).bind λc=>if q (c.N_=a.2.2.2.2.T_)=g then(zb a.2.2.2.1 a.2.1).bind λd=>(zb a.2.2.2.1 a.2.1).bind λe=>(zb a.2.2.2.1 a.2.1).bind λi=>(zb a.2.2.2.1 a.2.1).bind λj=>(zb a.2.2.2.1 a.2.1).bind λl=>(Zd l.V_ 0 j.P_).bind λm=>(D (a.1,a.2.2.2.2.K_,(a.2.1,0,j.P_),a.2.2.2.1)).bind λn=>f (Step.done (y (n.1,a.2.2.1,n.2))) else f (Step.next (a.1,Ut (a.2.1+1),a.2.2.1,a.2.2.2.1,kr a.2.2.2.2)) else f (Step.done (M (a.2.2.1,a.2.2.2.1)))
def q2p(A:zlO)(B:zpF)(C:zlO)(D:zvj)(E:zd6)(x:xb):Us WV:=(if q (x.2.1.k_=10)=g then(zb x.2.1.K_ 0).bind λa=>(A (x.1,kr a,x.2.2)).bind λb=>if q (b.2.1≠0)=g then f (y b.2) else(B (x.1,x.2.1.T_,b.2.2.2)).bind λc=>if q (c.1 < 0)=g then(zb c.2 x.1).bind λd=>(zb c.2 x.1).bind λe=>(zp 32 e.V_ [qh.mk x.2.1.T_ b.1.M_ b.1.t_]).bind λi=>(zb c.2 x.1).bind λj=>bif q (x.1=x.1) then f (y (0,b.2.2.1,Sl.set c.2 x.1 (qe.mk j.N_ j.P_ i))) else W else(zb c.2 x.1).bind λl=>(zb c.2 x.1).bind λm=>(zb m.V_ c.1).bind λn=>(zb c.2 x.1).bind λo=>(zb o.V_ c.1).bind λp=>if(!(q (p.N_=x.2.1.T_) && (q (p.M_=b.1.M_) && (q (p.t_=b.1.t_) && g))))=g then f (y (40,b.2.2.1,c.2)) else f (y (0,b.2.2.1,c.2)) else(if q (x.2.1.k_=20)=g then(zb x.2.1.K_ 0).bind λr=>(C (x.1,kr r,x.2.2)).bind λs=>f (y s.2) else(if q (x.2.1.k_=19)=g then(lpO (q4p A B C D E) (x.1,0,x.2.2.1,x.2.2.2,kr x.2.1)).bind λt=>F (λu=>f (y u)) (λu=>f (y (31,u))) t else(if q (x.2.1.k_=15)=g then f (x.1,x.2.1.k_,q (x.2.1.k_=15),x.2.2.1,x.2.2.2,kr x.2.1,qh.mk (lit []) 1 0) else f (x.1,x.2.1.k_,q (x.2.1.k_=16),x.2.2.1,x.2.2.2,kr x.2.1,qh.mk (lit []) 1 0)).bind λu=>(if u.2.2.1=g then(zb u.2.2.2.2.2.1.K_ 0).bind λv=>(E (u.1,kr v,u.2.2.2.2.2.2,u.2.2.2.2.1)).bind λw=>if q (w.1≠0)=g then f (y (w.1,u.2.2.2.1,w.2)) else(zb u.2.2.2.2.2.1.K_ 1).bind λz=>(E (u.1,kr z,u.2.2.2.2.2.2,w.2)).bind λG=>f (y (G.1,u.2.2.2.1,G.2)) else(if q (u.2.1=17)=g then if q (0 < u.2.2.2.2.2.1.K_.len)=g then f (y (35,u.2.2.2.1,u.2.2.2.2.1)) else f (y (0,u.2.2.2.1,u.2.2.2.2.1)) else if q (u.2.1=18)=g then f (y (0,u.2.2.2.1,u.2.2.2.2.1)) else f (M (u.2.2.2.1,u.2.2.2.2.1))).bind λH=>F (λI=>f (y I)) (λI=>f (M I)) H).bind λv=>F (λw=>f (y w)) (λw=>f (M w)) v).bind λt=>F (λu=>f (y u)) (λu=>f (M u)) t).bind λr=>F (λs=>f (y s)) (λs=>f (M s)) r).bind λa=>F (λb=>f b) (λb=>f (50,b)) a
def q1g:xb->Us WV:=q2p q39 q2c q2n q2o q1h
theorem qjx:@Eq ((xb)->Us WV) zow.F q1g:=by delta q1g;rw[<-qjf,<-qei,<-qg5,<-qhx,<-qcx];kernel_rfl
def q4z(A:zux)(B:zdy)(C:zhG):zpm->Us (Step zpm zd2):=λa=>if q (a.2.2.2.1 < a.2.2.2.2.2.2.K_.len)=g then(zb a.2.2.2.2.2.2.K_ a.2.2.2.1).bind λb=>(C (a.1,b.K_,a.2.2.2.2.1,a.2.2.2.2.2.1)).bind λc=>f (Step.next (a.1,a.2.1,a.2.2.1,Ut (a.2.2.2.1+1),c.1,c.2,kr a.2.2.2.2.2.2)) else f (Step.done (a.1,a.2.1,a.2.2.1,a.2.2.2.2.1,a.2.2.2.2.2.1))
def q3d(A:zux)(B:zdy)(C:zhG):zd2->Us (Step zd2 zvc):=λa=>(if q (a.2.2.1 < Sl.len a.2.1)=g then f (a.1,a.2.1,a.2.2.1,q (a.2.2.2.1.2.2.2=0),a.2.2.2) else f (a.1,a.2.1,a.2.2.1,N,a.2.2.2)).bind λb=>if b.2.2.2.1=g then(zb b.2.1 b.2.2.1).bind λc=>(A (b.1,kr c,b.2.2.2.2)).bind λd=>if q (d.1≠0)=g then(B (c.a_,d)).bind λe=>f (Step.done (y e)) else(if q (c.k_=15)=g then f (b.1,b.2.1,b.2.2.1,g,d.2.1,d.2.2,kr c) else f (b.1,b.2.1,b.2.2.1,q (c.k_=16),d.2.1,d.2.2,kr c)).bind λi=>(if i.2.2.2.1=g then(lpO (q4z A B C) (i.1,i.2.1,i.2.2.1,2,i.2.2.2.2.1,i.2.2.2.2.2.1,kr i.2.2.2.2.2.2)).bind λj=>f j else f (i.1,i.2.1,i.2.2.1,i.2.2.2.2.1,i.2.2.2.2.2.1)).bind λj=>f (Step.next (j.1,j.2.1,Ut (j.2.2.1+1),j.2.2.2)) else f (Step.done (M b.2.2.2.2))
def q6e(A:zux)(B:zdy)(C:zhG)(x:zvy):Us ZB:=(lpO (q3d A B C) (x.1,x.2.1,0,x.2.2)).bind λa=>F (λb=>f b) (λb=>f b) a
def q52(h:zcd):zcd:=q6e q1g q17 h
theorem qhy(h:zcd):@Eq zcd (ziK h) (q52 h):=by delta q52;rw[<-qjx,<-qcw];kernel_rfl
def q2q:Nat->zvy->Us ZB
  |0=>λ_=>W
  |k+1=>q52 (q2q k)
theorem qej:∀k,@Eq zcd (zf6 k) (q2q k)
  |0=>rfl
  |k+1=>(qhy (zf6 k)).trans (congrArg q52 (qej k))
def q4c:zcd:=q2q 100000
theorem qil:@Eq zcd zyD q4c:=qej 100000
def qdf(x:q7):Us ql:=f (ql.mk x.T_ x.n_)
def q1q:Wh:=qdf
theorem qbb:@Eq Wh zdd.F q1q:=by kernel_rfl
def q6c(A:Wh):zqg->Us (Step zqg (Sl ql)):=λa=>if q (a.2.1 < Sl.len a.1)=g then(zb a.1 a.2.1).bind λb=>(A (kr b)).bind λc=>(zp 24 a.2.2 [c]).bind λd=>f (Step.next (a.1,Ut (a.2.1+1),d)) else f (Step.done a.2.2)
def qbl(A:Wh)(x:GO):Us (Sl ql):=(lpO (q6c A) (x,0,O [] N)).bind λa=>f a
def q5e:GO->Us (Sl ql):=qbl q1q
theorem qfh:@Eq ((Sl q7)->Us (Sl ql)) zoz.F q5e:=by delta q5e;rw[<-qbb];kernel_rfl
def qa6(A:Wh)(B:GO->Us (Sl ql))(x:q7):Us zpe:=(zb x.K_ 0).bind λa=>(if q (a.k_=26)=g then f (a.k_,q (a.k_=26),(0,0,lit [],lit [],lit [],0,lit [],0,0,N),kr a,0,x.a_,x.T_,lit [],a.T_,a.n_,lit [],0,0,N) else f (a.k_,q (a.k_=27),(0,0,lit [],lit [],lit [],0,lit [],0,0,N),kr a,0,x.a_,x.T_,lit [],a.T_,a.n_,lit [],0,0,N)).bind λ(b:Int×Bool×(Int×Int×Uq×Uq×Uq×Int×Uq×Int×Int×Bool)×q7×Int×Int×Uq×Uq×Uq×Int×Uq×Int×Int×Bool)=>(if b.2.1=g then f (b.2.2.1,(b.2.2.2.2.1,b.2.2.2.2.2.1,b.2.2.2.2.2.2.1,b.2.2.2.2.2.2.2.1,b.2.2.2.1.T_,0,b.2.2.2.2.2.2.2.2.2.2),O [] N) else(if q (b.1=21)=g then(zb b.2.2.2.1.K_ 0).bind λc=>(A (kr c)).bind λd=>(zb b.2.2.2.1.K_ 1).bind λe=>(A (kr e)).bind λi=>f (b.2.2.1,(1,b.2.2.2.2.2.1,b.2.2.2.2.2.2.1,b.2.2.2.2.2.2.2.1,d.N_,d.n_,i.N_,i.n_,b.2.2.2.2.2.2.2.2.2.2.2.2),O [] N) else(if q (b.1=22)=g then(zb b.2.2.2.1.K_ 0).bind λj=>(A (kr j)).bind λl=>(zb b.2.2.2.1.K_ 1).bind λm=>(A (kr m)).bind λn=>f (b.2.2.1,(2,b.2.2.2.2.2.1,b.2.2.2.2.2.2.1,b.2.2.2.2.2.2.2.1,l.N_,l.n_,n.N_,n.n_,b.2.2.2.2.2.2.2.2.2.2.2.2),O [] N) else(if q (b.1=23)=g then f (b.2.2.1,(3,b.2.2.2.2.2.1,b.2.2.2.2.2.2.1,b.2.2.2.2.2.2.2.1,lit [],b.2.2.2.1.n_,b.2.2.2.2.2.2.2.2.2.2),O [] N) else(if q (b.1=24)=g then f (b.2.2.1,(4,b.2.2.2.2.2.1,b.2.2.2.2.2.2.1,b.2.2.2.2.2.2.2.1,b.2.2.2.1.T_,0,b.2.2.2.2.2.2.2.2.2.2),O [] N) else(if q (b.1=25)=g then(zb b.2.2.2.1.K_ 0).bind λo=>(A (kr o)).bind λp=>f (b.2.2.1,(5,b.2.2.2.2.2.1,b.2.2.2.2.2.2.1,b.2.2.2.1.T_,p.N_,p.n_,b.2.2.2.2.2.2.2.2.2.2),O [] N) else(if q (b.1=28)=g then(B b.2.2.2.1.K_).bind λr=>f (b.2.2.1,(12,b.2.2.2.2.2.1,b.2.2.2.2.2.2.1,b.2.2.2.1.T_,lit [],0,b.2.2.2.2.2.2.2.2.2.2),r) else f (b.2.2.1,b.2.2.2.2,O [] N)).bind λ(r:tA1)=>f r).bind λ(o:tA1)=>f o).bind λ(o:tA1)=>f o).bind λ(o:tA1)=>f o).bind λ(j:tA1)=>f j).bind λ(c:tA1)=>f c).bind λ(c:tA1)=>f c.2
def q64:zcc:=qa6 q1q q5e
theorem qjy:@Eq zcc ztn.F q64:=by delta q64;rw[<-qbb,<-qfh];kernel_rfl
def q86(A:zcc)(B:Wh)(C:GO->Us (Sl ql))(x:q7):Us zpe:=if q (x.k_=10)=g then(A (kr x)).bind λa=>f a else(if q (x.k_=11)=g then(zb x.K_ 0).bind λb=>(B (kr b)).bind λc=>(zb x.K_ 1).bind λd=>(B (kr d)).bind λe=>f ((0,0,lit [],lit [],lit [],0,lit [],0,0,N),(6,x.a_,lit [],x.T_,c.N_,c.n_,e.N_,e.n_,0,N),O [] N) else(if q (x.k_=12)=g then f ((0,0,lit [],lit [],lit [],0,lit [],0,0,N),(7,x.a_,lit [],x.T_,lit [],0,lit [],0,0,N),O [] N) else(if q (x.k_=13)=g then f ((0,0,lit [],lit [],lit [],0,lit [],0,0,N),(8,x.a_,lit [],x.T_,lit [],x.n_,lit [],0,0,N),O [] N) else(if q (x.k_=14)=g then f ((0,0,lit [],lit [],lit [],0,lit [],0,0,N),(9,x.a_,lit [],x.T_,lit [],x.n_,lit [],0,0,N),O [] N) else(if q (x.k_=20)=g then(zb x.K_ 0).bind λi=>(zb x.K_ 0).bind λj=>(C j.K_).bind λl=>f ((0,0,lit [],lit [],lit [],0,lit [],0,0,N),(12,x.a_,lit [],i.T_,lit [],0,lit [],0,0,N),l) else(if q (x.k_=19)=g then(C x.K_).bind λm=>f ((0,0,lit [],lit [],lit [],0,lit [],0,0,N),(13,x.a_,lit [],x.T_,lit [],0,lit [],0,0,N),m) else(if q (x.k_=17)=g then(if q (0 < x.K_.len)=g then(zb x.K_ 0).bind λn=>(B (kr n)).bind λo=>f ((0,0,lit [],lit [],lit [],0,lit [],0,0,N),14,x.a_,lit [],lit [],o.N_,o.n_,lit [],0,0,g) else f ((0,0,lit [],lit [],lit [],0,lit [],0,0,N),14,x.a_,lit [],lit [],lit [],0,lit [],0,0,N)).bind λ(n:tA5)=>f n else(if q (x.k_=18)=g then f ((0,0,lit [],lit [],lit [],0,lit [],0,0,N),15,x.a_,lit [],lit [],lit [],0,lit [],0,0,N) else f ((0,0,lit [],lit [],lit [],0,lit [],0,0,N),0,x.a_,lit [],x.T_,lit [],0,lit [],0,0,N)).bind λ(o:tA5)=>f o).bind λ(n:tA5)=>f (n.1,n.2,O [] N)).bind λ(m:tA1)=>f m).bind λ(i:tA1)=>f i).bind λ(i:tA1)=>f i).bind λ(i:tA1)=>f i).bind λ(i:tA1)=>f i).bind λ(b:tA1)=>f b.2
def q1u:zcc:=q86 q64 q1q q5e
theorem qim:@Eq zcc zoA.F q1u:=by delta q1u;rw[<-qjy,<-qbb,<-qfh];kernel_rfl
def q4u(A:zcc)(B:Wh)(C:zel):zpu->Us (Step zpu zvQ):=λa=>if q (a.2.2.2.2.1 < Sl.len a.2.2.2.2.2.2.2.2)=g then(zb a.2.2.2.2.2.2.2.2 a.2.2.2.2.1).bind λb=>(zb a.2.2.2.2.2.2.2.2 a.2.2.2.2.1).bind λc=>(zp 136 a.2.2.2.2.2.2.1 [c]).bind λd=>f (Step.next (a.1,a.2.1,a.2.2.1,a.2.2.2.1,Ut (a.2.2.2.2.1+1),kr a.2.2.2.2.2.1,d,kr a.2.2.2.2.2.2.2.1,a.2.2.2.2.2.2.2.2)) else f (Step.done (a.1,a.2.1,a.2.2.1,a.2.2.2.1,kr a.2.2.2.2.2.1,a.2.2.2.2.2.2.1,kr a.2.2.2.2.2.2.2.1))
def q4v(A:zcc)(B:Wh)(C:zel):zpR->Us (Step zpR zen):=λa=>if q (a.2.2.1 < Sl.len a.2.2.2.2.2)=g then(zb a.2.2.2.2.2 a.2.2.1).bind λb=>(zb a.2.2.2.2.2 a.2.2.1).bind λc=>(zp 136 a.2.2.2.2.1 [c]).bind λd=>f (Step.next (a.1,a.2.1,Ut (a.2.2.1+1),kr a.2.2.2.1,d,a.2.2.2.2.2)) else f (Step.done (a.1,a.2.1,kr a.2.2.2.1,a.2.2.2.2.1))
def q3c(A:zcc)(B:Wh)(C:zel):zen->Us (Step zen (Sl qm)):=λa=>if q (a.2.1 < a.2.2.1.K_.len)=g then((zb a.2.2.1.K_ a.2.1).bind λb=>(if q (b.k_≠15)=g then f (a.1,a.2.1,Ut (a.1+Sl.len a.2.2.2),q (b.k_≠16),kr a.2.2.1,a.2.2.2,kr b) else f (a.1,a.2.1,Ut (a.1+Sl.len a.2.2.2),N,kr a.2.2.1,a.2.2.2,kr b)).bind λc=>if c.2.2.2.1=g then(A (kr c.2.2.2.2.2.2)).bind λd=>(zp 136 c.2.2.2.2.2.1 [qm.mk d.1.1 d.1.2.1 d.1.2.2.1 d.1.2.2.2.1 (ql.mk d.1.2.2.2.2.1 d.1.2.2.2.2.2.1) (ql.mk d.1.2.2.2.2.2.2.1 d.1.2.2.2.2.2.2.2.1) d.2 d.1.2.2.2.2.2.2.2.2.1 d.1.2.2.2.2.2.2.2.2.2]).bind λe=>f (c.1,c.2.1,kr c.2.2.2.2.1,e) else(zb c.2.2.2.2.2.2.K_ 0).bind λi=>(B (kr i)).bind λj=>(zb c.2.2.2.2.2.2.K_ 1).bind λl=>(B (kr l)).bind λm=>(zb c.2.2.2.2.2.2.K_ 2).bind λn=>(C (kr n,Ut (c.2.2.1+1))).bind λo=>(zp 136 c.2.2.2.2.2.1 [qm.mk 10 c.2.2.2.2.2.2.a_ c.2.2.2.2.2.2.T_ (lit []) j m (O [] N) (Ut (Ut (Ut (c.2.2.1+1)+o.len)+1)) N]).bind λp=>(lpO (q4u A B C) (c.1,c.2.1,c.2.2.1,Ut (Ut (c.2.2.1+1)+o.len),0,kr c.2.2.2.2.1,p,kr c.2.2.2.2.2.2,o)).bind λr=>if q (r.2.2.2.2.2.2.k_=16)=g then(zp 136 r.2.2.2.2.2.1 [qm.mk 11 r.2.2.2.2.2.2.a_ (lit []) (lit []) (ql.mk (lit []) 0) (ql.mk (lit []) 0) (O [] N) r.2.2.1 N]).bind λs=>f (r.1,r.2.1,kr r.2.2.2.2.1,s) else(zb r.2.2.2.2.2.2.K_ 3).bind λt=>(C (kr t,Ut (r.2.2.2.1+1))).bind λu=>(zp 136 r.2.2.2.2.2.1 [qm.mk 11 r.2.2.2.2.2.2.a_ (lit []) (lit []) (ql.mk (lit []) 0) (ql.mk (lit []) 0) (O [] N) (Ut (Ut (r.2.2.2.1+1)+u.len)) N]).bind λv=>(lpO (q4v A B C) (r.1,r.2.1,0,kr r.2.2.2.2.1,v,u)).bind λw=>f (w.1,w.2.1,kr w.2.2.1,w.2.2.2)).bind λb=>f (Step.next (b.1,Ut (b.2.1+1),kr b.2.2.1,b.2.2.2)) else f (Step.done a.2.2.2)
def q6f(A:zcc)(B:Wh)(C:zel)(x:q7×Int):Us (Sl qm):=(lpO (q3c A B C) (x.2,0,kr x.1,O [] N)).bind λa=>f a
def q53(h:vH):vH:=q6f q1u q1q h
theorem qhz(h:vH):@Eq vH (ziL h) (q53 h):=by delta q53;rw[<-qim,<-qbb];kernel_rfl
def q2a:Nat->(q7×Int)->Us (Sl qm)
  |0=>λ_=>W
  |k+1=>q53 (q2a k)
theorem qek:∀k,@Eq vH (zf7 k) (q2a k)
  |0=>rfl
  |k+1=>(qhz (zf7 k)).trans (congrArg q53 (qek k))
def q49:vH:=q2a 100000
theorem qin:@Eq vH zyH q49:=qek 100000
def q4w(A:zel):zpv->Us (Step zpv zvA):=λa=>if q (a.2.1 < Ut (a.1 - 1))=g then(zb a.2.2.1.K_ a.2.1).bind λb=>(zp 16 a.2.2.2.2.2 [b.T_]).bind λc=>f (Step.next (a.1,Ut (a.2.1+1),kr a.2.2.1,a.2.2.2.1,a.2.2.2.2.1,c)) else f (Step.done (a.1,kr a.2.2.1,a.2.2.2))
def q87(A:zel)(x:q7):Us zpW:=(lpO (q4w A) (Ut (x.K_.len - 1),0,kr x,lit [],x.T_,O [] N)).bind λa=>(zb a.2.1.K_ a.1).bind λb=>(A (kr b,0)).bind λc=>(zb a.2.1.K_ a.1).bind λd=>(zp 136 c [qm.mk 14 d.a_ (lit []) (lit []) (ql.mk (lit []) 0) (ql.mk (lit []) 0) (O [] N) 0 N]).bind λe=>f (a.2.2.2.1,a.2.2.2.2,e)
def q26:zch:=q87 q49
theorem qfi:@Eq zch zoC.F q26:=by delta q26;rw[<-qin];kernel_rfl
def q3e(A:zdy)(B:zut)(C:zhG)(D:zch):xb->Us (Step xb zgB):=λa=>(if q (a.1 < a.2.1.K_.len)=g then f (a.1,q (a.2.2.1.2.2.2=0),kr a.2.1,a.2.2) else f (a.1,N,kr a.2.1,a.2.2)).bind λb=>if b.2.1=g then(zb b.2.2.1.K_ b.1).bind λc=>if q (c.k_≠6)=g then(zb b.2.2.1.K_ b.1).bind λd=>(A (d.a_,50,b.2.2.2)).bind λe=>f (Step.done (kr b.2.2.1,e)) else(zb b.2.2.1.K_ b.1).bind λi=>(B (kr i,b.2.2.2)).bind λj=>(zp 48 j.2.2.1 [qe.mk j.1.1 j.1.2 j.2.2.2]).bind λl=>f (Step.next (Ut (b.1+1),kr b.2.2.1,j.2.1,l)) else f (Step.done (kr b.2.2.1,b.2.2.2))
def q3f(A:zdy)(B:zut)(C:zhG)(D:zch):xb->Us (Step xb ZB):=λa=>(if q (a.1 < a.2.1.K_.len)=g then f (a.1,q (a.2.2.1.2.2.2=0),kr a.2.1,a.2.2) else f (a.1,N,kr a.2.1,a.2.2)).bind λb=>if b.2.1=g then(zb b.2.2.1.K_ b.1).bind λc=>(zb b.2.2.2.2 b.1).bind λd=>(zb c.K_ (Ut (c.K_.len - 1))).bind λe=>(C (b.1,e.K_,b.2.2.2)).bind λi=>(D (kr c)).bind λj=>((zb i.2 b.1).bind λl=>(zb i.2 b.1).bind λm=>(zb i.2 b.1).bind λn=>if q (64 < n.V_.len)=g then f (b.1,g,kr b.2.2.1,i.1,kr c,i.2) else f (b.1,q (512 < Sl.len j.2.2),kr b.2.2.1,i.1,kr c,i.2)).bind λl=>(if l.2.1=g then(A (l.2.2.2.2.1.a_,22,l.2.2.2.1,l.2.2.2.2.2)).bind λm=>f (l.1,kr l.2.2.1,m) else f (l.1,kr l.2.2.1,l.2.2.2.1,l.2.2.2.2.2)).bind λm=>f (Step.next (Ut (m.1+1),kr m.2.1,m.2.2)) else f (Step.done b.2.2.2)
def q89(A:zdy)(B:zut)(C:zhG)(D:zch)(x:zqi):Us ZB:=(lpO (q3e A B C D) (0,kr x.1,(x.2.1,x.2.2,0,0),O [] N)).bind λa=>(lpO (q3f A B C D) (0,kr a.1,a.2)).bind λb=>(if q (b.1.2.2.2≠0)=g then f (b.1,O [] N) else f b).bind λc=>f c
def q3s:zqi->Us ZB:=q89 q17 q41 q4c q26
theorem qio:@Eq ((zqi)->Us ZB) zto.F q3s:=by delta q3s;rw[<-qcw,<-qjd,<-qil,<-qfi];kernel_rfl
def q4k(A:zjo)(B:zec)(C:zed)(D:zvB)(E:zvh)(G:zco)(H:zch):zpb->Us (Step zpb zvd):=λa=>if q (a.2.2.2.1 < a.2.2.1)=g then(zb a.2.1 a.2.2.2.1).bind λb=>(if q (b.k_=6)=g then(G (kg b)).bind λc=>(zp 64 a.2.2.2.2.2.2.2.2.2.1 [c]).bind λd=>(zb a.2.2.2.2.2.1.K_ a.2.2.2.1).bind λe=>(H (kr e)).bind λi=>(zp 64 a.2.2.2.2.2.2.2.2.2.2 [q19.mk i.1 i.2.1 i.2.2]).bind λj=>f (a.1,a.2.1,a.2.2.1,a.2.2.2.1,a.2.2.2.2.1,kr a.2.2.2.2.2.1,a.2.2.2.2.2.2.1,a.2.2.2.2.2.2.2.1,a.2.2.2.2.2.2.2.2.1,d,j) else f (a.1,a.2.1,a.2.2.1,a.2.2.2.1,a.2.2.2.2.1,kr a.2.2.2.2.2.1,a.2.2.2.2.2.2)).bind λc=>f (Step.next (c.1,c.2.1,c.2.2.1,Ut (c.2.2.2.1+1),c.2.2.2.2.1,kr c.2.2.2.2.2.1,c.2.2.2.2.2.2)) else f (Step.done (a.1,a.2.2.2.2.1,a.2.2.2.2.2.2))
def q7l(A:zjo)(B:zec)(C:zed)(D:zvB)(E:zvh)(G:zco)(H:zch)(x:xf):Us zjK:=(A x.1).bind λa=>(B x.2).bind λb=>(if(!a.2)=g then f (x.2,g,a.1,kg b.1) else f (x.2,q (b.2.2≠0),a.1,kg b.1)).bind λc=>if c.2.1=g then f (c.2.2.1,q1k.mk (O [] N) (O [] N) (O [] N) (O [] N),N) else(C c.1).bind λd=>(D (kg c.2.2.2,c.2.2.1.s_,c.2.2.1.E_)).bind λe=>(E (kr d.1,c.2.2.1.G_,c.2.2.1.U_)).bind λi=>(lpO (q4k A B C D E G H) (e.2.1,c.2.2.2.K_,c.2.2.2.K_.len,0,c.2.2.1,kr d.1,e.2.2,i.1,i.2,O [] N,O [] N)).bind λj=>(if q (j.1=0)=g then if q (j.2.2.2.1.2.2.2=0)=g then if q (Sl.len j.2.2.1=Sl.len j.2.2.2.2.2.1)=g then f (q (Sl.len j.2.2.2.2.1=Sl.len j.2.2.1),j.2.1,j.2.2.1,j.2.2.2.2.2.1,j.2.2.2.2.1,j.2.2.2.2.2.2) else f (N,j.2.1,j.2.2.1,j.2.2.2.2.2.1,j.2.2.2.2.1,j.2.2.2.2.2.2) else f (N,j.2.1,j.2.2.1,j.2.2.2.2.2.1,j.2.2.2.2.1,j.2.2.2.2.2.2) else f (N,j.2.1,j.2.2.1,j.2.2.2.2.2.1,j.2.2.2.2.1,j.2.2.2.2.2.2)).bind λl=>f (l.2.1,q1k.mk l.2.2.1 l.2.2.2.1 l.2.2.2.2.1 l.2.2.2.2.2,l.1)
def q3g:xf->Us zjK:=q7l q30 q3i q24 q4r q3s q5j q26
theorem qi0:@Eq ((xf)->Us zjK) ztp.F q3g:=by delta q3g;rw[<-qhe,<-qaf,<-qc6,<-qes,<-qio,<-qkb,<-qfi];kernel_rfl
def q50(A:zvz):zpO->Us (Step zpO (Sl qj×Sl qy)):=λa=>if q (a.2.1 < a.1)=g then(zb a.2.2.2.1.H_ a.2.1).bind λb=>(zb a.2.2.2.1.J_ a.2.1).bind λc=>(zp 184 a.2.2.2.2.1 [qj.mk b c a.2.2.1.s_ a.2.2.2.1.J_ a.2.2.1.E_]).bind λd=>(zb a.2.2.2.1.j_ a.2.1).bind λe=>(zb a.2.2.2.1.r_ a.2.1).bind λi=>(zp 8 a.2.2.2.2.2 [qy.mk e i a.2.2.1.G_ a.2.2.2.1.r_ a.2.2.1.U_]).bind λj=>f (Step.next (a.1,Ut (a.2.1+1),a.2.2.1,a.2.2.2.1,d,j)) else f (Step.done a.2.2.2.2)
def q8a(A:zvz)(x:xf):Us zgJ:=(A x).bind λa=>if(!a.2.2)=g then f (N,O [] N,O [] N) else(lpO (q50 A) (a.2.1.J_.len,0,a.1,a.2.1,O [] N,O [] N)).bind λb=>f (g,b)
def q1v:xf->Us zgJ:=q8a q3g
theorem qfj:@Eq ((xf)->Us zgJ) zoD.F q1v:=by delta q1v;rw[<-qi0];kernel_rfl
def qdq(x:qb×qi):Us Yi:=f (q (x.1.N_=x.2.Y_),x.2)
def q7b:qb×qi->Us Yi:=qdq
theorem qkr:@Eq ((qb×qi)->Us Yi) zoE.F q7b:=by kernel_rfl
def q6v(A:zjs):zeo->Us (Step zeo zer):=λa=>if q (a.2.2.1 < a.2.1)=g then(zb a.1 a.2.2.1).bind λb=>(A (b,a.2.2.2)).bind λc=>if c.1=g then f (Step.done (y (a.2.2.1,c.2))) else f (Step.next (a.1,a.2.1,Ut (a.2.2.1+1),c.2)) else f (Step.done (M a.2.2.2))
def qb6(A:zjs)(x:zeu):Us (Int×qi):=(lpO (q6v A) (x.1,Sl.len x.1,0,x.2)).bind λa=>F (λb=>f b) (λb=>f (-1,b)) a
def q56:zeu->Us (Int×qi):=qb6 q7b
theorem qks:@Eq ((zeu)->Us (Int×qi)) ztq.F q56:=by delta q56;rw[<-qkr];kernel_rfl
def qck(x:Int):GX:=(if q (x=0)=g then f g else if q (x=1)=g then f g else f (q (x=3))).bind λa=>f a
def q2x:zL:=qck
theorem qg6:@Eq zL zhk.F q2x:=by kernel_rfl
def qb5(A:zL)(x:qf×qj):Us vL:=(if q (x.1.M_=2)=g then(zb x.2.Z_ x.1.t_).bind λa=>(A a.S_).bind λb=>f (!b,x.2) else f (N,x.2)).bind λa=>f a
def q55:qf×qj->Us vL:=qb5 q2x
theorem qkt:@Eq ((qf×qj)->Us vL) zts.F q55:=by delta q55;rw[<-qg6];kernel_rfl
def q5w(A:zv5):zqc->Us (Step zqc (Int×qj⊕qj)):=λa=>if q (a.2.2.1 < a.2.1)=g then(zb a.1 a.2.2.1).bind λb=>(A (b,a.2.2.2)).bind λc=>if c.1=g then f (Step.done (y (a.2.2.1,c.2))) else f (Step.next (a.1,a.2.1,Ut (a.2.2.1+1),c.2)) else f (Step.done (M a.2.2.2))
def qa9(A:zv5)(x:zcr):Us (Int×qj):=(lpO (q5w A) (x.1,Sl.len x.1,0,x.2)).bind λa=>F (λb=>f b) (λb=>f (-1,b)) a
def q7s:zcr->Us (Int×qj):=qa9 q55
theorem qjz:@Eq ((zcr)->Us (Int×qj)) ztt.F q7s:=by delta q7s;rw[<-qkt];kernel_rfl
def q8b(A:zcr->Us (Int×qj))(x:zcr):Us vL:=(A x).bind λa=>f (q (0<=a.1),a.2)
def q3t:zcr->Us vL:=q8b q7s
theorem qip:@Eq ((zcr)->Us vL) ztu.F q3t:=by delta q3t;rw[<-qjz];kernel_rfl
def q7z(A:zpY)(B:zvY):zjz->Us (Step zjz Yh):=λa=>if q (a.2.2.1 < a.2.1)=g then((zb a.1 a.2.2.1).bind λb=>if q (b.O_≠13)=g then f (y a) else(A (a.2.2.2.F_,b)).bind λc=>(if q (0<=c.1)=g then(zb a.2.2.2.F_ c.1).bind λd=>(zb a.2.2.2.F_ c.1).bind λe=>(Zd d.V_ 0 e.P_).bind λi=>(B (i,a.2.2.2)).bind λj=>f (a.1,a.2.1,a.2.2.1,j.1,j.2,c.2) else f (a.1,a.2.1,a.2.2.1,N,a.2.2.2,c.2)).bind λd=>if d.2.2.2.1=g then f (M (d.2.2.2.2.2.a_,54)) else f (y (d.1,d.2.1,d.2.2.1,d.2.2.2.2.1))).bind λb=>F (λc=>f (Step.next (c.1,c.2.1,Ut (c.2.2.1+1),c.2.2.2))) (λc=>f (Step.done (y c))) b else f (Step.done (M ()))
def qcl(A:zpY)(B:zvY)(x:qj):Us zP:=(lpO (q7z A B) (x.c_.L_,x.c_.L_.len,0,x)).bind λa=>F (λb=>f b) (λb=>f (0,0)) a
def q3j:zar:=qcl q56 q3t
theorem qhg:@Eq zar zoF.F q3j:=by delta q3j;rw[<-qks,<-qip];kernel_rfl
def qe5(x:Int):GX:=f (q (x=3))
def q3l:zL:=qe5
theorem qhc:@Eq zL zkY.F q3l:=by kernel_rfl
def qbm(A:zd4)(B:zar)(C:zL)(D:zL)(x:Unit):GX:=(A (lit [116,121,112,101,32,114,99,32,99,111,117,110,116,101,100,32,110,32,123,32,110,32,125,59,32,102,110,32,109,107,40,41,32,45,62,32,111,119,110,32,114,99,32,123,32,125],lit [102,110,32,109,97,105,110,40,41,32,123,32,118,32,61,32,109,107,40,41,59,32,102,111,114,107,32,119,40,118,41,59,32,125,32,102,110,32,119,40,118,58,32,111,119,110,32,114,99,41,32,123,32,125])).bind λa=>if(!a.1)=g then f N else(zb a.2.1 0).bind λb=>(zb a.2.1 0).bind λc=>(B c).bind λd=>(if q (d.2=54)=g then if q (d.1=22)=g then(C 3).bind λe=>if e=g then(C 4).bind λi=>if(!i)=g then(D 3).bind λj=>if j=g then(D 1).bind λl=>f !l else f N else f N else f N else f N else f N).bind λe=>f e
def q27:zcm:=qbm q1v q3j q2x q3l
theorem qiq:@Eq zcm ztv.F q27:=by delta q27;rw[<-qfj,<-qhg,<-qg6,<-qhc];kernel_rfl
def qd6(x:qj×Int):Us zcs:=(if q (x.2 < 0)=g then f (x.2,g,x.1,0,0,lit [],lit [],lit [],0,lit [],0,0,N) else f (x.2,q (x.1.c_.L_.len<=x.2),x.1,0,0,lit [],lit [],lit [],0,lit [],0,0,N)).bind λ(a:Int×Bool×qj×Int×Int×Uq×Uq×Uq×Int×Uq×Int×Int×Bool)=>if a.2.1=g then f (qi.mk 0 0 (lit []) (lit []) (qt.mk (lit []) 0) (qt.mk (lit []) 0) (O [] N) 0 N,N) else(zb a.2.2.1.c_.L_ a.1).bind λb=>f (b,g)
def q3h:qj×Int->Us zcs:=qd6
theorem qds:@Eq ((qj×Int)->Us zcs) zhl.F q3h:=by kernel_rfl
def qd7(A:zgF)(B:vG)(x:qj×Int):Us zjB:=(A x).bind λa=>(if(!a.2)=g then f (g,x.1,qf.mk (lit []) 0 0,qf.mk (lit []) 0 0,a.1) else if q (a.1.O_≠0)=g then f (g,x.1,qf.mk (lit []) 0 0,qf.mk (lit []) 0 0,a.1) else if q (a.1.A_.N_=lit [])=g then f (g,x.1,qf.mk (lit []) 0 0,qf.mk (lit []) 0 0,a.1) else f (q (a.1.A_.n_≠0),x.1,qf.mk (lit []) 0 0,qf.mk (lit []) 0 0,a.1)).bind λb=>if b.1=g then f (b.2.2.1,b.2.2.2.1, -1,N) else(B (b.2.1.f_,b.2.2.2.2.A_.N_)).bind λc=>(zb b.2.1.f_.V_ c).bind λd=>(B (b.2.1.f_,b.2.2.2.2.X_)).bind λe=>(zb b.2.1.f_.V_ e).bind λi=>f (i,d,c,g)
def q6w:qj×Int->Us zjB:=qd7 q3h q1s
theorem qkc:@Eq ((qj×Int)->Us zjB) ztx.F q6w:=by delta q6w;rw[<-qds,<-q78];kernel_rfl
def qd9(x:qj×qf):GX:=(if q (x.2.M_=2)=g then(zb x.1.Z_ x.2.t_).bind λa=>f (q (a.S_≠3)) else f N).bind λa=>f a
def q6x:qj×qf->GX:=qd9
theorem qkd:@Eq ((qj×qf)->Us Bool) zoG.F q6x:=by kernel_rfl
def qel(x:qd×qi):Us Yi:=f (q (x.1.N_=x.2.Y_),x.2)
def qfk:qd×qi->Us Yi:=qel
theorem qir:@Eq ((qd×qi)->Us Yi) zoH.F qfk:=by kernel_rfl
def qk0(A:zv6):zqd->Us (Step zqd zer):=λa=>if q (a.2.2.1 < a.2.1)=g then(zb a.1 a.2.2.1).bind λb=>(A (b,a.2.2.2)).bind λc=>if c.1=g then f (Step.done (y (a.2.2.1,c.2))) else f (Step.next (a.1,a.2.1,Ut (a.2.2.1+1),c.2)) else f (Step.done (M a.2.2.2))
def qgb(A:zv6)(x:Sl qd×qi):Us (Int×qi):=(lpO (qk0 A) (x.1,Sl.len x.1,0,x.2)).bind λa=>F (λb=>f b) (λb=>f (-1,b)) a
def qgl:Sl qd×qi->Us (Int×qi):=qgb qfk
theorem qke:@Eq ((Sl qd×qi)->Us (Int×qi)) zty.F qgl:=by delta qgl;rw[<-qir];kernel_rfl
def qem(x:qb×qi):Us Yi:=f (q (x.1.N_=x.2.Y_),x.2)
def q9j:qb×qi->Us Yi:=qem
theorem qis:@Eq ((qb×qi)->Us Yi) zoI.F q9j:=by kernel_rfl
def q7t(A:zjs):zeo->Us (Step zeo zer):=λa=>if q (a.2.2.1 < a.2.1)=g then(zb a.1 a.2.2.1).bind λb=>(A (b,a.2.2.2)).bind λc=>if c.1=g then f (Step.done (y (a.2.2.1,c.2))) else f (Step.next (a.1,a.2.1,Ut (a.2.2.1+1),c.2)) else f (Step.done (M a.2.2.2))
def qd8(A:zjs)(x:zeu):Us (Int×qi):=(lpO (q7t A) (x.1,Sl.len x.1,0,x.2)).bind λa=>F (λb=>f b) (λb=>f (-1,b)) a
def qb7:zeu->Us (Int×qi):=qd8 q9j
theorem qkf:@Eq ((zeu)->Us (Int×qi)) ztz.F qb7:=by delta qb7;rw[<-qis];kernel_rfl
def qcm(A:Sl qd×qi->Us (Int×qi))(B:zpY)(x:qj×qi):Us Uh:=(if q (x.2.O_=12)=g then(A (x.1.z_,x.2)).bind λa=>if q (0<=a.1)=g then(zb x.1.z_ a.1).bind λb=>f (y b.P_) else f (M ()) else(if q (x.2.O_=13)=g then(B (x.1.F_,x.2)).bind λc=>if q (0<=c.1)=g then(zb x.1.F_ c.1).bind λd=>(zb x.1.F_ c.1).bind λe=>(Zd d.V_ 0 e.P_).bind λi=>f (y i) else f (M ()) else f (M ())).bind λc=>F (λd=>f (y d)) (λd=>f (M ())) c).bind λa=>F (λb=>f b) (λb=>f (O [] N)) a
def q67:qj×qi->Us Uh:=qcm qgl qb7
theorem qk1:@Eq ((qj×qi)->Us (Sl qf)) ztA.F q67:=by delta q67;rw[<-qke,<-qkf];kernel_rfl
def q7u(A:zvN)(B:qj×qf->GX)(C:zgF)(D:qj×qi->Us Uh)(E:vG):zjf->Us (Step zjf (Sl Int)):=λa=>if q (a.2.2.1 < a.2.1)=g then(zb a.1 a.2.2.1).bind λb=>(B (a.2.2.2.1,b)).bind λc=>(if c=g then(zb a.2.2.2.2.1.Q_ a.2.2.1).bind λd=>(E (a.2.2.2.1.f_,d.N_)).bind λe=>(zp 8 a.2.2.2.2.2 [e]).bind λi=>f (a.1,a.2.1,a.2.2.1,a.2.2.2.1,a.2.2.2.2.1,i) else f a).bind λd=>f (Step.next (d.1,d.2.1,Ut (d.2.2.1+1),d.2.2.2)) else f (Step.done a.2.2.2.2.2)
def qda(A:zvN)(B:qj×qf->GX)(C:zgF)(D:qj×qi->Us Uh)(E:vG)(x:qj×Int):Us (Sl Int):=(A x).bind λa=>(if a.2.2.2=g then(if q (a.1.M_=a.2.1.M_)=g then(B (x.1,a.2.1)).bind λb=>if b=g then f (a.2.2.1,g) else f (a.2.2.1,q (a.2.1.M_=4)) else f (a.2.2.1,N)).bind λb=>if b.2=g then f (y (O [b.1] g)) else f (y (O [] N)) else f (M (x.2,x.1))).bind λb=>F (λc=>f c) (λc=>(C (c.2,c.1)).bind λd=>(D (c.2,d.1)).bind λe=>(lpO (q7u A B C D E) (e,e.len,0,c.2,d.1,O [] N)).bind λi=>f i) b
def q42:WX:=qda q6w q6x q3h q67 q1s
theorem qkg:@Eq ((qj×Int)->Us (Sl Int)) ztB.F q42:=by delta q42;rw[<-qkc,<-qkd,<-qds,<-qk1,<-q78];kernel_rfl
def qcz:zji->Us (Step zji zcq):=λa=>if q (a.2.1 < a.1)=g then(zb a.2.2.2 a.2.1).bind λb=>(zb a.2.2.2 a.2.1).bind λc=>(if q (c.N_≠lit [])=g then(zp 16 a.2.2.1 [c.N_]).bind λd=>f (a.1,a.2.1,d,a.2.2.2) else f a).bind λd=>f (Step.next (d.1,Ut (d.2.1+1),d.2.2)) else f (Step.done a.2.2.1)
def qgq(x:qi):Us zcq:=(if q (x.O_=5)=g then f (q (x.O_=5),x) else(if q (x.O_=6)=g then f (q (x.O_=6),x) else(if q (x.O_=7)=g then f (q (x.O_=7),x) else(if q (x.O_=8)=g then f (q (x.O_=8),x) else f (q (x.O_=9),x)).bind λa=>f a).bind λa=>f a).bind λa=>f a).bind λa=>(if a.1=g then f (a.2,O ([]++[a.2.Y_]) (N || ![a.2.Y_].isEmpty)) else f (a.2,O [] N)).bind λb=>(zp 24 (O [b.1.A_,b.1.B_] g) b.1.Q_.xs).bind λc=>(lpO qcz (c.len,0,b.2,c)).bind λd=>f d
def qc0:zgH:=qgq
theorem qlh:@Eq zgH zoJ.F qc0:=by kernel_rfl
def q7v(A:zgF)(B:zgH)(C:vG):zpN->Us (Step zpN (Sl Int)):=λa=>if q (a.2.1 < a.1)=g then(zb a.2.2.2.2 a.2.1).bind λb=>(zb a.2.2.2.2 a.2.1).bind λc=>(C (a.2.2.1.f_,c)).bind λd=>(zp 8 a.2.2.2.1 [d]).bind λe=>f (Step.next (a.1,Ut (a.2.1+1),a.2.2.1,e,a.2.2.2.2)) else f (Step.done a.2.2.2.1)
def qdb(A:zgF)(B:zgH)(C:vG)(x:qj×Int):Us (Sl Int):=(A x).bind λa=>(if a.2=g then(B a.1).bind λb=>(lpO (q7v A B C) (b.len,0,x.1,O [] N,b)).bind λc=>f c else f (O [] N)).bind λb=>f b
def q43:WX:=qdb q3h qc0 q1s
theorem qkh:@Eq ((qj×Int)->Us (Sl Int)) ztC.F q43:=by delta q43;rw[<-qds,<-qlh,<-q78];kernel_rfl
def q31(A:zd4)(B:zcm)(C:zar)(D:WX)(E:WX)(G:zL)(H:zL):zuu->Us (Step zuu zzP):=λa=>if q (a.2.2.2.2.2.2.2.2.2.1 < a.2.2.2.2.2.2.2.2.1)=g then(zb a.2.2.2.2.2.2.2.2.2.2.2.2.2 a.2.2.2.2.2.2.2.2.2.1).bind λb=>(zb a.2.2.2.2.2.2.2.2.2.2.2.2.2 a.2.2.2.2.2.2.2.2.2.1).bind λc=>f (Step.next (a.1,a.2.1,a.2.2.1,a.2.2.2.1,a.2.2.2.2.1,a.2.2.2.2.2.1,a.2.2.2.2.2.2.1,a.2.2.2.2.2.2.2.1,a.2.2.2.2.2.2.2.2.1,Ut (a.2.2.2.2.2.2.2.2.2.1+1),a.2.2.2.2.2.2.2.2.2.2.1,(a.2.2.2.2.2.2.2.2.2.2.2.1.1,O (Xe c (Ut (ZZ c a.2.2.2.2.2.2.2.2.2.2.2.1.2.xs+1)) a.2.2.2.2.2.2.2.2.2.2.2.1.2.xs) g),a.2.2.2.2.2.2.2.2.2.2.2.2)) else f (Step.done (a.1,a.2.1,a.2.2.1,a.2.2.2.1,a.2.2.2.2.1,a.2.2.2.2.2.1,a.2.2.2.2.2.2.1,a.2.2.2.2.2.2.2.1,a.2.2.2.2.2.2.2.2.2.2.1,a.2.2.2.2.2.2.2.2.2.2.2.1,a.2.2.2.2.2.2.2.2.2.2.2.2.1))
def q32(A:zd4)(B:zcm)(C:zar)(D:WX)(E:WX)(G:zL)(H:zL):zlN->Us (Step zlN zvk):=λa=>if q (a.2.2.2.2.2.2.2.2.1 < a.2.2.2.2.2.2.2.1)=g then(zb a.2.2.2.2.2.2.2.2.2.2.2.2 a.2.2.2.2.2.2.2.2.1).bind λb=>(zb a.2.2.2.2.2.2.2.2.2.2.2.2 a.2.2.2.2.2.2.2.2.1).bind λc=>(zb a.2.2.2.2.2.2.2.2.2.1.f_.V_ c).bind λd=>(if q (d.M_=1)=g then f (y a) else(if q (d.M_=2)=g then(if a.2.1=g then(zb a.2.2.2.2.2.2.2.2.2.1.Z_ d.t_).bind λe=>(G e.S_).bind λi=>f (a.1,i,c,a.2.2.1,a.2.2.2.1,a.2.2.2.2.1,a.2.2.2.2.2.1,a.2.2.2.2.2.2.1,a.2.2.2.2.2.2.2.1,a.2.2.2.2.2.2.2.2.1,a.2.2.2.2.2.2.2.2.2.1,a.2.2.2.2.2.2.2.2.2.2.1,d,a.2.2.2.2.2.2.2.2.2.2.2) else f (a.1,N,c,a.2.2.1,a.2.2.2.1,a.2.2.2.2.1,a.2.2.2.2.2.1,a.2.2.2.2.2.2.1,a.2.2.2.2.2.2.2.1,a.2.2.2.2.2.2.2.2.1,a.2.2.2.2.2.2.2.2.2.1,a.2.2.2.2.2.2.2.2.2.2.1,d,a.2.2.2.2.2.2.2.2.2.2.2)).bind λe=>((zb e.2.2.2.2.2.2.2.2.2.2.1.Z_ e.2.2.2.2.2.2.2.2.2.2.2.2.1.t_).bind λi=>yK ((H i.S_).bind λj=>f (e.1,e.2.1,e.2.2.2.1,e.2.2.2.2.1,e.2.2.2.2.2.1,e.2.2.2.2.2.2.1,e.2.2.2.2.2.2.2.1,e.2.2.2.2.2.2.2.2.1,e.2.2.2.2.2.2.2.2.2.1,q (0 < ZZ e.2.2.1 e.2.2.2.2.2.2.2.2.2.2.2.1.2.xs) == j,e.2.2.2.2.2.2.2.2.2.2.1,e.2.2.2.2.2.2.2.2.2.2.2.1,e.2.2.2.2.2.2.2.2.2.2.2.2.2)) ((H i.S_).bind λj=>f (e.1,e.2.1,e.2.2.2.1,e.2.2.2.2.1,e.2.2.2.2.2.1,e.2.2.2.2.2.2.1,e.2.2.2.2.2.2.2.1,e.2.2.2.2.2.2.2.2.1,e.2.2.2.2.2.2.2.2.2.1,q (0 < ZZ e.2.2.1 e.2.2.2.2.2.2.2.2.2.2.2.1.2.xs) == j,e.2.2.2.2.2.2.2.2.2.2.1,e.2.2.2.2.2.2.2.2.2.2.2.1,e.2.2.2.2.2.2.2.2.2.2.2.2.2))).bind λi=>if i.2.2.2.2.2.2.2.2.2.1=g then f (y N) else f (M (i.1,i.2.1,i.2.2.1,i.2.2.2.1,i.2.2.2.2.1,i.2.2.2.2.2.1,i.2.2.2.2.2.2.1,i.2.2.2.2.2.2.2.1,i.2.2.2.2.2.2.2.2.1,i.2.2.2.2.2.2.2.2.2.2)) else f (y N)).bind λe=>F (λi=>f (M i)) (λi=>f (y i)) e).bind λe=>F (λi=>f (Step.next (i.1,i.2.1,i.2.2.1,i.2.2.2.1,i.2.2.2.2.1,i.2.2.2.2.2.1,i.2.2.2.2.2.2.1,i.2.2.2.2.2.2.2.1,Ut (i.2.2.2.2.2.2.2.2.1+1),i.2.2.2.2.2.2.2.2.2))) (λi=>f (Step.done (y i))) e else f (Step.done (M (a.1,a.2.1,a.2.2.1,a.2.2.2.1,a.2.2.2.2.1,a.2.2.2.2.2.1,a.2.2.2.2.2.2.1,a.2.2.2.2.2.2.2.2.2.1,a.2.2.2.2.2.2.2.2.2.2.2.1)))
def q33(A:zd4)(B:zcm)(C:zar)(D:WX)(E:WX)(G:zL)(H:zL):zgx->Us (Step zgx zvU):=λa=>if q (a.2.2.2.2.2.2.1 < a.2.2.2.2.2.1)=g then((zb a.2.2.2.2.1 a.2.2.2.2.2.2.1).bind λb=>if q (b.O_≠13)=g then f (y a) else(D (a.2.2.2.2.2.2.2.1,a.2.2.2.2.2.2.1)).bind λc=>(lpO (q31 A B C D E G H) (a.1,a.2.1,a.2.2.2.2.2.2.1,a.2.2.1,a.2.2.2.1,a.2.2.2.2.1,a.2.2.2.2.2.1,a.2.2.2.2.2.2.1,c.len,0,a.2.2.2.2.2.2.2.1,(lit [],O [] g),a.2.2.2.2.2.2.2.2,c)).bind λd=>(E (d.2.2.2.2.2.2.2.2.1,d.2.2.1)).bind λe=>(lpO (q32 A B C D E G H) (d.1,d.2.1,d.2.2.2.1,d.2.2.2.2.1,d.2.2.2.2.2.1,d.2.2.2.2.2.2.1,d.2.2.2.2.2.2.2.1,e.len,0,d.2.2.2.2.2.2.2.2.1,d.2.2.2.2.2.2.2.2.2.1,d.2.2.2.2.2.2.2.2.2.2,e)).bind λi=>F (λj=>f (M j)) (λj=>f (y j)) i).bind λb=>F (λc=>f (Step.next (c.1,c.2.1,c.2.2.1,c.2.2.2.1,c.2.2.2.2.1,c.2.2.2.2.2.1,Ut (c.2.2.2.2.2.2.1+1),c.2.2.2.2.2.2.2))) (λc=>f (Step.done (y c))) b else f (Step.done (M (a.1,a.2.1,a.2.2.1,a.2.2.2.1,a.2.2.2.2.2.2.2.2)))
def q2h(A:zd4)(B:zcm)(C:zar)(D:WX)(E:WX)(G:zL)(H:zL):zjI->Us (Step zjI (Bool⊕Unit)):=λa=>if q (a.2.1 < a.1)=g then((zb a.2.2 a.2.1).bind λb=>(zb a.2.2 a.2.1).bind λc=>(C c).bind λd=>(lpO (q33 A B C D E G H) (d.2,g,a.1,a.2.1,c.c_.L_,c.c_.L_.len,0,c,a.2.2)).bind λe=>F (λi=>f (y i)) (λi=>if(i.2.1 != q (i.1=0))=g then f (y N) else f (M i.2.2)) e).bind λb=>F (λc=>f (Step.done (y c))) (λc=>f (Step.next (c.1,Ut (c.2.1+1),c.2.2))) b else f (Step.done (M ()))
def q7d(A:zd4)(B:zcm)(C:zar)(D:WX)(E:WX)(G:zL)(H:zL)(x:xf):GX:=(A x).bind λa=>((B ()).bind λb=>if(!b)=g then f (g,a.2.1) else f (!a.1,a.2.1)).bind λb=>if b.1=g then(B ()).bind λc=>f c else(lpO (q2h A B C D E G H) (Sl.len b.2,0,b.2)).bind λd=>F (λe=>f e) (λe=>f g) d
def q80:xf->GX:=q7d q1v q27 q3j q42 q43 q2x q3l
theorem qge:@Eq ((xf)->Us Bool) zhm.F q80:=by delta q80;rw[<-qfj,<-qiq,<-qhg,<-qkg,<-qkh,<-qg6,<-qhc];kernel_rfl
end
end Go.Px
