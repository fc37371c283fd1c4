/- Part S1: PxSm. -/
import Derived.Test.YtpcipfnohfefhaaGreatDoorCh
set_option linter.unusedVariables false
set_option linter.unusedSimpArgs false
namespace Go.Px
open Sum (inl inr elim)
open Go.Proofs
set_option maxRecDepth 100000
set_option maxHeartbeats 4000000
noncomputable section
abbrev kg(a:q7):=q7.mk a.k_ a.T_ a.N_ a.a_ a.K_
abbrev kr(a:q6):=q6.mk a.k_ a.T_ a.N_ a.a_ a.K_
abbrev zY:=Int×Int
abbrev zQ:=G1×zY
abbrev HX:=Int×zQ
abbrev XA:=q8×HX×HX
abbrev HZ:=Sl q7
abbrev YX:=q8×HX×HX×HZ
abbrev tA0:=zY×XA⊕YX⊕XA
abbrev HS:=Int×Int×G1×G1×G1×Int×G1×Int×Int×Bool
abbrev znD:=HS×Sl ql
abbrev tA1:=HS×znD
abbrev Gi:=Sl qa
abbrev HY:=zQ×Sl qp×Sl qr
abbrev znL:=Gi×q7×HZ×HZ×HY
abbrev zan:=zY×HY⊕HY
abbrev tA2:=znL->G4 zan
abbrev Gd:=Sl qc
abbrev Gg:=Sl qk×Sl qq
abbrev Ge:=Sl q6
abbrev Gb:=Int×Int×Gd×zQ×Ge×Ge×zQ×Sl Int×Gg
abbrev tA4:=Int×Int×Gd×zQ×Gg⊕Gb
abbrev tA5:=HS×HS
abbrev Ga:=Int×Int×zY
abbrev Gt:=Sl q9
abbrev zky:=Ga×Gt×HX×HX
abbrev tA6:=Ga×Gt×HX×Ge⊕zky
abbrev HU:=G1×zQ
abbrev Gp:=Int×Int×HU
abbrev Gk:=Int×Int×q6×HU×HU×q6×qh×Sl qh
abbrev tA7:=Gp⊕Gd×Gk
abbrev z8:=G1×Int
abbrev HW:=(G1×Sl z8)×G1×Sl z8
abbrev zhX:=q7×HW
abbrev vm:=Bool×HW
abbrev tA8:=zhX->G4 vm
abbrev HT:=(Sl qd×Gi×zY)×Sl qb
abbrev znN:=HZ×(Int×zY)×HT
abbrev zM:=zY×HT⊕HT
abbrev Gm:=G4 zM
abbrev tA9:=znN->Gm
abbrev znU:=q7×HZ×HY
abbrev zr3:=znU->G4 zan
abbrev Gn:=Int×Int×q6×HU×HU×q6×Sl qh
abbrev zwl:=Gp⊕Gd×Gn
abbrev zh0:=Bool×Int×HT
abbrev znR:=q7×zh0
abbrev zr4:=znR->Gm
abbrev Gv:=Int×Int×Gd×zQ×Sl qk
abbrev Gj:=Int×Gd×zQ×Ge×Ge×q6×zQ×q6×Sl qk
abbrev zwm:=Gv⊕Gj
abbrev znZ:=G1×HT
abbrev Ww:=zY×HT⊕qf×HT
abbrev zwn:=znZ->G4 Ww
abbrev znW:=G1×qf×HT
abbrev zr5:=znW->Gm
abbrev Gu:=Sl qd×Gi×Int
abbrev HV:=Gu×Sl qb
abbrev zob:=q7×HV
abbrev zkw:=zY×HV⊕z8×Gu×Sl qb×Sl qf
abbrev zr6:=zob->G4 zkw
abbrev Gx:=Int×q7×HU×HU×Sl qf
abbrev zwo:=Gp⊕Gi×Gx
abbrev Gy:=Int×q6×HU×HU×Sl qh
abbrev zwp:=Gp⊕Gd×Gy
abbrev zwq:=vm⊕HW
abbrev Wu:=zh0->Gm
abbrev zn3:=q7×qf×HT
abbrev zeE:=zn3->Gm
abbrev zdw:=q7×HT
abbrev znt:=zdw->G4 Ww
abbrev znC:=qf×HT⊕zY×HT
abbrev zr7:=zdw->G4 znC
abbrev ztc:=HZ×HT
abbrev zbS:=ztc->Gm
abbrev Gq:=Gd×zQ×Ge×Ge×q6×zQ×Sl qk
abbrev zws:=Gv⊕Gq
abbrev zwt:=Int×Int×Gd×zQ×Gg⊕Gd×zQ×zQ×Gg
abbrev zh4:=Bool×Int×HV
abbrev znY:=q7×zh4
abbrev xC:=zY×HV⊕HV
abbrev zkv:=znY->G4 xC
abbrev Gf:=Int×Gu×Sl qb×q7×z8×z8×Sl qf
abbrev zwu:=zY×HV⊕Gf
abbrev zr9:=zh4->G4 xC
abbrev zg:=zY×q8
abbrev zsa:=zg⊕q8×HX×HZ⊕XA
abbrev YY:=HX×Int×Int×HZ
abbrev VU:=zY×YY
abbrev zwx:=VU->G4 YY
abbrev zsb:=Gd×Int×Gk
abbrev zsd:=Gi×Int×HZ×Int×Gx
abbrev zB:=Ga×Gt
abbrev yV:=Int×zB
abbrev V0:=Ga×Gt×Ge
abbrev Zy:=HX×V0
abbrev znv:=yV->G4 Zy
abbrev zse:=Gd×Int×Gn
abbrev Yj:=zB->G4 Zy
abbrev Gh:=Sl G1
abbrev zsf:=Int×Ga×Gt×HX×HX×Gh
abbrev znw:=Int×Gb
abbrev zwz:=VU⊕YY
abbrev zsg:=Int×Int×Int×Gd×zQ×Ge×Ge×zQ×Sl qq×Gg
abbrev zfU:=q7×zY
abbrev Gz:=zQ×Sl qp×Sl qr×zfU
abbrev zwA:=zY×HY⊕Gz
abbrev wV:=HZ×Int×Int×(Sl qd×Gi×zY)×Sl qb×qf
abbrev zc2:=zY×HT⊕wV
abbrev zwB:=YY->G4 YY
abbrev xl:=Ga×Gt×HX×HX×Ge
abbrev Vr:=Bool×xl
abbrev znx:=Int×HZ×Int×Gf
abbrev zwC:=Int×Bool×Sl qi×q7×HS
abbrev G0:=q7×zQ×HZ×zQ×Sl qp
abbrev zny:=Gi×HZ×HZ×Int×Int×G0
abbrev yU:=HX×zB
abbrev Wv:=zB->G4 yU
abbrev znz:=Gd×Int×Gy
abbrev zeF:=q6->G4 znD
abbrev zeG:=HX×Ga×HX×Gt×Ge
abbrev znA:=Int×Gj
abbrev zwE:=zg⊕q8×HX×HZ⊕q8×q7×HX
abbrev zkx:=Int×Int×Gd×zQ×Ge×Ge×zQ×Gg
abbrev W4:=Sl qi×HS×Sl qt
abbrev zsi:=HZ×Int×Int×qw×zhX
abbrev zwF:=zY⊕Gi×HZ×G0
abbrev zsk:=Sl qd×Int×Int×zhX
abbrev zsl:=zg⊕q8×q7⊕XA
abbrev zbT:=zg⊕YX
abbrev zsm:=HZ×HZ×Int×Int×zQ×HY
abbrev YZ:=G1×zB
abbrev zS:=Bool×zB
abbrev Z5:=YZ->G4 zS
abbrev znB:=Int×Gq
abbrev zwH:=Sl qi×HS
abbrev zhY:=Bool×XA
abbrev znE:=G1×Int×zhY
abbrev zsn:=HZ×Int×Int×HW
abbrev XH:=YZ->G4 zB
abbrev zwJ:=Bool⊕qw×zhX
abbrev zkz:=HZ×HZ×Int×Int×Gz
abbrev Zp:=q6×zB
abbrev zwK:=Zp->G4 Zp
abbrev Gw:=Sl qg×(Gi×Gd)×HZ×Ge
abbrev znF:=Int×Int×HZ×Int×Int×Sl qd×q6×Gw
abbrev znG:=zB->G4 V0
abbrev Gs:=Int×q8
abbrev ym:=q8×HZ
abbrev Zf:=zg⊕HX×ym
abbrev zhS:=Gs->G4 Zf
abbrev wU:=yV->G4 zB
abbrev zhT:=zB->G4 yV
abbrev znH:=HZ×Int×Int×wV
abbrev XW:=zB->G4 Zp
abbrev zsR:=zY⊕zQ×HY
abbrev zsS:=YZ⊕zB
abbrev zhV:=zY×zfU⊕q7×Int×Int×HV
abbrev ZL:=q8->G4 Zf
abbrev zsX:=HX×ym⊕zg
abbrev znI:=q8->G4 zsX
abbrev znJ:=(Int×zY)×HZ×Int×Int×HT
abbrev zfI:=zY⊕HY
abbrev zsT:=Gi×q7->G4 zfI
abbrev ZY:=zg⊕HX×q8
abbrev XX:=q8->G4 ZY
abbrev VT:=HZ×Int×Int×q7×Int×Int×HV
abbrev ztb:=G1×G1×Gh×Sl qi
abbrev zfH:=HZ×Int×Int×ztb
abbrev znM:=Sl qf×HZ×Int×Int×HT
abbrev VV:=zg⊕q8×q7⊕q8×HX
abbrev Y2:=Int×Int×Gi
abbrev zsY:=zY×q7×Y2⊕q7×Y2
abbrev zif:=zY×Y2
abbrev zsZ:=zif->G4 Y2
abbrev yz:=Int×Int×Sl qb
abbrev zij:=zY×yz
abbrev znO:=zij->G4 yz
abbrev zs0:=Int×Int×Sl qd×Gw
abbrev zs2:=zg⊕q8×q7×HX
abbrev zds:=HX×Int×Int×ym
abbrev WH:=G1×G1
abbrev znQ:=G1×(G1×WH)×Int
abbrev znS:=Int×Int×Int×Int×Int×q6×Sl qm×q6×Sl qm
abbrev zs4:=Int×q6×G1×G1×Gh
abbrev znT:=Int×zs4
abbrev znV:=Int×Ga×Gt×Gh
abbrev zhZ:=HZ×Sl qf×HT
abbrev V3:=G1×Ga
abbrev zs3:=V3->G4 (Sl qr)
abbrev zdt:=V3->G4 (Sl qq)
abbrev wX:=G1×q8
abbrev Z3:=zg⊕q8
abbrev xZ:=wX->G4 Z3
abbrev vn:=zg⊕Gs
abbrev zh1:=Gs->G4 vn
abbrev zto:=wX⊕zg
abbrev znX:=q8->G4 zto
abbrev zor:=q7×Sl qd×Gi
abbrev zh2:=zor->G4 yz
abbrev zfP:=zg⊕qn×q8
abbrev zs5:=Gs->G4 zfP
abbrev zn0:=(G1×WH)×Gs
abbrev zs6:=Y2->G4 Y2
abbrev zn1:=yz->G4 yz
abbrev ZM:=zg⊕q7×q8
abbrev zn2:=q7×q8->G4 ZM
abbrev XB:=HZ×G1
abbrev yr:=Int×G1
abbrev zs9:=XB->G4 yr
abbrev VX:=G1×Int×Int×Int×Bool×q9×q9
abbrev zn4:=Ga×Gt×q6×Ge
abbrev XY:=q6×Gd
abbrev zis:=qc×Int×Int×Gd
abbrev zta:=XY->G4 zis
abbrev yH:=zg⊕ym
abbrev YI:=q8->G4 yH
abbrev ziB:=Bool×q7×Int
abbrev YK:=zY⊕Unit
abbrev zdu:=ziB->G4 YK
abbrev zdv:=Int×yV
abbrev ziD:=qa×G1
abbrev ZZ:=Bool×G1
abbrev ztd:=ziD->G4 ZZ
abbrev V7:=q7×G1
abbrev zh3:=V7->G4 ZZ
abbrev zfK:=HZ×Int×Int×q7×Y2
abbrev ziG:=qf×G1
abbrev zte:=ziG->G4 ZZ
abbrev zh5:=zQ->G4 (qn×Int)
abbrev zog:=q7×q8⊕zg
abbrev zh6:=q8->G4 zog
abbrev YJ:=q8->G4 ZM
abbrev x4:=Sl qf×qf
abbrev V6:=Bool×x4
abbrev zh8:=x4->G4 V6
abbrev vt:=q7×Gi
abbrev zix:=Int×Int×Sl qd
abbrev ztg:=vt->G4 zix
abbrev ziy:=Int×Int×Sl qg
abbrev zth:=XY->G4 ziy
abbrev zti:=Int×Int×Int×Int×q6×Sl qm×q6
abbrev zos:=Int×Int×Sl qn
abbrev zh9:=G1->G4 zos
abbrev WI:=Int×x4
abbrev ztj:=x4->G4 WI
abbrev zia:=G1->G4 (Int×Int×Gt)
abbrev zfS:=Int×Sl qb×q7
abbrev zn5:=Sl qb×q7->G4 zfS
abbrev zio:=Gh×G1
abbrev Gc:=G4 Int
abbrev ztl:=zio->Gc
abbrev V1:=Gs->G4 zg
abbrev zn6:=Gh×zQ
abbrev ziE:=qd×zY
abbrev ztm:=vt->G4 ziE
abbrev ziF:=qg×zY
abbrev ztn:=XY->G4 ziF
abbrev zn8:=Int×Int×Int×q6×Sl qm×Sl qm
abbrev Gl:=G4 Bool
abbrev zn9:=WH->Gl
abbrev zF:=Bool×q8
abbrev Zq:=wX->G4 zF
abbrev zom:=qa×G1×HZ
abbrev zdy:=zom->Gc
abbrev zoa:=z8->G4 (q9×Int)
abbrev V2:=G1->G4 zfU
abbrev zic:=G1->G4 (q6×zY)
abbrev ziI:=HZ×HZ
abbrev zfL:=HZ×Int×Int×ziI
abbrev zie:=Gi×HZ×zix
abbrev vq:=Int×Sl qi
abbrev zfM:=qi×Sl qi->G4 vq
abbrev zoc:=XB->Gl
abbrev zfN:=G1×Int×Int×q9×q9
abbrev zfV:=qh×Bool
abbrev zig:=XY->G4 zfV
abbrev zih:=q7->G4 Y2
abbrev zii:=q6->G4 (Int×Int×Gd)
abbrev zbZ:=Gi×G1
abbrev zbX:=zbZ->Gc
abbrev ztp:=vt->G4 (qf×Int)
abbrev ziv:=Gd×G1
abbrev zbY:=ziv->Gc
abbrev ziw:=Ge×G1
abbrev zdz:=ziw->Gc
abbrev zdA:=G1->G4 (qw×Bool)
abbrev ztr:=zY⊕G1×Sl qn
abbrev zod:=Gi×Int×yr
abbrev zdB:=HZ×Int×yr
abbrev zik:=WI⊕x4
abbrev zts:=zY⊕G1×Gt
abbrev zoe:=Sl qf×Int×yr
abbrev ztt:=zfS⊕Sl qb×q7
abbrev yy:=q7×Sl qi->G4 (Sl qi)
abbrev wW:=z8->Gc
abbrev zil:=G1->G4 G1
abbrev wY:=Bool×qf
abbrev zim:=qf×qf->G4 wY
abbrev zfW:=Bool×q7
abbrev ztu:=qd×q7->G4 zfW
abbrev V5:=yr⊕G1
abbrev zdD:=q7->G4 ziI
abbrev zfO:=qb×G1->Gc
abbrev zof:=q6×Int->G4 (Sl qm)
abbrev zin:=zg⊕q8×q7
abbrev zdF:=q6×Int->G4 Ge
abbrev zoh:=HZ×Int×Int×Sl qt
abbrev zoi:=HZ×Int×vq
abbrev zip:=Gd×Int×q6×Sl qg
abbrev WG:=G1->Gl
abbrev zfQ:=G1×Int×Sl qn
abbrev zoj:=Int×HZ×zY
abbrev vo:=G1×Int×Gt
abbrev zok:=Gd×z8
abbrev zol:=Ge×z8
abbrev zdH:=Int×WI
abbrev zir:=Int×Int×q6×Ge
abbrev zon:=Sl qd×Int×Int×q7
abbrev zoo:=Int×zfS
abbrev zdI:=Int×Int×q6×Sl qm
abbrev Y1:=q8->G4 (qn×q8)
abbrev zop:=q7×Int->G4 qt
abbrev ziu:=q7->G4 (Sl qt)
abbrev zoq:=Ge×Int×Sl ql
abbrev zfR:=Unit->Gl
abbrev Zg:=Int->Gl
abbrev ziz:=Sl qf×G1
abbrev ziA:=Int×XY
abbrev XC:=q7->Gc
abbrev XD:=q6->Gc
abbrev ziC:=q7×q7×Sl qi
abbrev zfT:=q7->G4 q1h
abbrev zdJ:=Int×Gs
abbrev zb0:=q7->G4 qt
abbrev ziH:=q7->G4 q7
abbrev vp:=q6->G4 ql
abbrev zdK:=Int⊕Unit
abbrev zdL:=qf×Gi
abbrev zku:=tA8
abbrev zgI:=zbS
abbrev wT:=Yj
abbrev zdE:=yy
abbrev zdG:=zof
abbrev Zr:=G1
theorem eqT {α:Type}{a b c d:α}(h:a=b) (k:b=c) (l:c=d):a=d:=h.trans (k.trans l)
def qe9 (x:Int):Gl:=some (decide (x≠10))
def qa7:Zg:=qe9
theorem ql2:@Eq Zg P0.F qa7:=by kernel_rfl
def qjz (A:Zg):z8->G4 (Step z8 Int):=fun a=>(if decide (a.2 < (↑(ByteArray.size a.1):Int))=true then (Zc a.1 a.2).bind fun b=>(A b).bind fun c=>some (a.1,a.2,c) else some (a.1,a.2,false)).bind fun b=>if b.2.2=true then some (Step.next (b.1,G5 (b.2.1+1))) else some (Step.done b.2.1)
def qfp (A:Zg) (x:z8):Gc:=(lpO (qjz A) x).bind fun a=>some a
def qa1:z8->Gc:=qfp qa7
theorem qkh:@Eq ((z8)->G4 Int) P1.F qa1:=by delta qa1;rw [<-ql2];kernel_rfl
def qgi (x:Int):Gl:=(if decide (48<=x)=true then some (decide (x<=57)) else some false).bind fun a=>some a
def q8m:Zg:=qgi
theorem qh1:@Eq Zg P2.F q8m:=by kernel_rfl
def q56 (A:Zg):z8->G4 (Step z8 Int):=fun a=>(if decide (a.2 < (↑(ByteArray.size a.1):Int))=true then (Zc a.1 a.2).bind fun b=>(A b).bind fun c=>some (a.1,a.2,c) else some (a.1,a.2,false)).bind fun b=>if b.2.2=true then some (Step.next (b.1,G5 (b.2.1+1))) else some (Step.done b.2.1)
def qgm (A:Zg) (x:z8):Gc:=(lpO (q56 A) x).bind fun a=>some a
def qbl:z8->Gc:=qgm q8m
theorem ql0:@Eq ((z8)->G4 Int) P3.F qbl:=by delta qbl;rw [<-qh1];kernel_rfl
def qbp:=XM
theorem qk0:F4=qbp:=rfl
def qg0 (x:Int):Gl:=(if decide (97<=x)=true then if decide (x<=122)=true then some true else some (decide (x=95)) else some (decide (x=95))).bind fun a=>some a
def q70:Zg:=qg0
theorem qgn:@Eq Zg P5.F q70:=by kernel_rfl
def qg2 (A:zQ->G4 (Int⊕Int)) (B:Zg) (x:zQ):G4 (qn×Int):=(Zz x.1 x.2.1 x.2.2).bind fun a=>((A (a,10,64)).bind fun b=>elim (fun c=>some (inl (x.1,x.2.1,x.2.2,a,c,qn.mk 0 (lit []) 0 0))) (fun c=>some (inr (x.1,x.2.1,x.2.2,a,c,qn.mk 0 (lit []) 0 0))) b).bind fun b=>elim (fun c=>if decide (1099511627776 < c.2.2.2.2.1)=true then some (qn.mk 0 (lit []) 0 0,12) else if decide (1 < (↑(ByteArray.size c.2.2.2.1):Int))=true then (Zc c.2.2.2.1 0).bind fun d=>if decide (d=48)=true then some (qn.mk 0 (lit []) 0 0,12) else if decide (c.2.2.1 < (↑(ByteArray.size c.1):Int))=true then (Zc c.1 c.2.2.1).bind fun e=>(B e).bind fun i=>if i=true then some (qn.mk 0 (lit []) 0 0,12) else some (qn.mk 3 c.2.2.2.1 c.2.2.2.2.1 c.2.1,0) else some (qn.mk 3 c.2.2.2.1 c.2.2.2.2.1 c.2.1,0) else if decide (c.2.2.1 < (↑(ByteArray.size c.1):Int))=true then (Zc c.1 c.2.2.1).bind fun j=>(B j).bind fun l=>if l=true then some (qn.mk 0 (lit []) 0 0,12) else some (qn.mk 3 c.2.2.2.1 c.2.2.2.2.1 c.2.1,0) else some (qn.mk 3 c.2.2.2.1 c.2.2.2.2.1 c.2.1,0)) (fun c=>some (qn.mk 0 (lit []) 0 0,12)) b
def qbo:zQ->G4 (qn×Int):=qg2 qbp q70
theorem qlb:@Eq ((zQ)->G4 (qn×Int)) P6.F qbo:=by delta qbo;rw [<-qk0,<-qgn];kernel_rfl
def qg1 (A:Zg) (B:Zg) (x:Int):Gl:=((A x).bind fun a=>if a=true then some true else (B x).bind fun b=>some b).bind fun a=>some a
def qbn:Zg:=qg1 q70 q8m
theorem qlc:@Eq Zg P7.F qbn:=by delta qbn;rw [<-qgn,<-qh1];kernel_rfl
def qki (A:Zg):z8->G4 (Step z8 Int):=fun a=>(if decide (a.2 < (↑(ByteArray.size a.1):Int))=true then (Zc a.1 a.2).bind fun b=>(A b).bind fun c=>some (a.1,a.2,c) else some (a.1,a.2,false)).bind fun b=>if b.2.2=true then some (Step.next (b.1,G5 (b.2.1+1))) else some (Step.done b.2.1)
def qg9 (A:Zg) (x:z8):Gc:=(lpO (qki A) x).bind fun a=>some a
def qan:z8->Gc:=qg9 qbn
theorem qkw:@Eq ((z8)->G4 Int) P8.F qan:=by delta qan;rw [<-qlc];kernel_rfl
def qgj (x:Zr):Gl:=(if decide (x=lit [116,121,112,101])=true then some (decide (x=lit [116,121,112,101])) else (if decide (x=lit [102,110])=true then some (decide (x=lit [102,110])) else (if decide (x=lit [111,119,110])=true then some (decide (x=lit [111,119,110])) else (if decide (x=lit [99,101,108,108])=true then some (decide (x=lit [99,101,108,108])) else (if decide (x=lit [99,111,117,110,116,101,100])=true then some (decide (x=lit [99,111,117,110,116,101,100])) else (if decide (x=lit [108,111,99,107])=true then some (decide (x=lit [108,111,99,107])) else (if decide (x=lit [103,117,97,114,100])=true then some (decide (x=lit [103,117,97,114,100])) else (if decide (x=lit [119,104,101,114,101])=true then some (decide (x=lit [119,104,101,114,101])) else (if decide (x=lit [105,110,116])=true then some (decide (x=lit [105,110,116])) else (if decide (x=lit [109,117,116])=true then some (decide (x=lit [109,117,116])) else (if decide (x=lit [102,114,101,101])=true then some (decide (x=lit [102,114,101,101])) else (if decide (x=lit [117,110,108,111,99,107])=true then some (decide (x=lit [117,110,108,111,99,107])) else (if decide (x=lit [105,102])=true then some (decide (x=lit [105,102])) else (if decide (x=lit [101,108,115,101])=true then some (decide (x=lit [101,108,115,101])) else (if decide (x=lit [119,104,105,108,101])=true then some (decide (x=lit [119,104,105,108,101])) else (if decide (x=lit [114,101,116,117,114,110])=true then some (decide (x=lit [114,101,116,117,114,110])) else (if decide (x=lit [97,98,111,114,116])=true then some (decide (x=lit [97,98,111,114,116])) else (if decide (x=lit [102,111,114,107])=true then some (decide (x=lit [102,111,114,107])) else (if decide (x=lit [110,101,119])=true then some (decide (x=lit [110,101,119])) else some (decide (x=lit [97,114,114,97,121]))).bind fun a=>some a).bind fun a=>some a).bind fun a=>some a).bind fun a=>some a).bind fun a=>some a).bind fun a=>some a).bind fun a=>some a).bind fun a=>some a).bind fun a=>some a).bind fun a=>some a).bind fun a=>some a).bind fun a=>some a).bind fun a=>some a).bind fun a=>some a).bind fun a=>some a).bind fun a=>some a).bind fun a=>some a).bind fun a=>some a).bind fun a=>if a=true then some true else some false
def qca:WG:=qgj
theorem qli:@Eq WG P9.F qca:=by kernel_rfl
def qh0 (A:WG) (x:zQ):G4 (qn×Int):=(Zz x.1 x.2.1 x.2.2).bind fun a=>if decide (16 < (↑a.size:Int))=true then some (qn.mk 0 (lit []) 0 0,13) else (A a).bind fun b=>(if b=true then some (qn.mk 0 (lit []) 0 0,qn.mk 2 a 0 x.2.1) else some (qn.mk 0 (lit []) 0 0,qn.mk 1 a 0 x.2.1)).bind fun c=>some (c.2,0)
def qea:zQ->G4 (qn×Int):=qh0 qca
theorem qlm:@Eq ((zQ)->G4 (qn×Int)) P10.F qea:=by delta qea;rw [<-qli];kernel_rfl
def q3k (x:WH):Gl:=(if decide ((↑(ByteArray.size x.2):Int)<=(↑(ByteArray.size x.1):Int))=true then (Zz x.1 0 (↑(ByteArray.size x.2):Int)).bind fun a=>some (decide (a=x.2)) else some false).bind fun a=>some a
def q8u:WH->Gl:=q3k
theorem qd5:@Eq ((WH)->G4 Bool) P11.F q8u:=by kernel_rfl
def qed (A:zn9) (x:WH):Gl:=(A x).bind fun a=>some a
def q6a:WH->Gl:=qed q8u
theorem qjb:@Eq ((WH)->G4 Bool) P12.F q6a:=by delta q6a;rw [<-qd5];kernel_rfl
def q6b:=wG
theorem qjc:F13=q6b:=rfl
def q9m (A:zn9) (B:wW):znQ->G4 (Step znQ (G1⊕G1)):=fun a=>if decide (a.2.2 < 3)=true then (WW [a.2.1.1,a.2.1.2.1,a.2.1.2.2] a.2.2).bind fun b=>(A (a.1,b)).bind fun c=>if c=true then some (Step.done (inl b)) else some (Step.next (a.1,a.2.1,G5 (a.2.2+1))) else some (Step.done (inr a.1))
def qkt (A:zn9) (B:wW) (x:Zr):G4 G1:=(lpO (q9m A B) (x,(lit [45,62],lit [60,61],lit [61,61]),0)).bind fun a=>elim (fun b=>some b) (fun b=>(Zc b 0).bind fun c=>(B (lit [123,125,40,41,91,93,44,58,59,61,43,45,38,60],c)).bind fun d=>if decide (0<=d)=true then (Zz b 0 1).bind fun e=>some e else some (lit [])) a
def qge:zil:=qkt q6a q6b
theorem qln:@Eq zil P14.F qge:=by delta qge;rw [<-qjb,<-qjc];kernel_rfl
def qcx (A:wW) (B:Zg) (C:wW) (D:zh5) (E:Zg) (G:wW) (H:zh5) (I:zil):zfQ->G4 (Step zfQ ztr):=fun a=>if decide (a.2.1 < (↑(ByteArray.size a.1):Int))=true then ((Zc a.1 a.2.1).bind fun b=>(if decide (b=32)=true then some (a.1,a.2.1,0,b,true,a.2.2,qn.mk 0 (lit []) 0 0) else some (a.1,a.2.1,0,b,decide (b=10),a.2.2,qn.mk 0 (lit []) 0 0)).bind fun c=>(if c.2.2.2.2.1=true then some (inl (c.1,G5 (c.2.1+1),c.2.2.2.2.2.1)) else if decide (c.2.2.2.1=35)=true then (A (c.1,c.2.1)).bind fun d=>some (inl (c.1,d,c.2.2.2.2.2.1)) else (B c.2.2.2.1).bind fun e=>(if e=true then (C (c.1,c.2.1)).bind fun i=>(D (c.1,c.2.1,i)).bind fun j=>some (c.1,c.2.1,j.2,c.2.2.2.2.2.1,j.1) else (E c.2.2.2.1).bind fun l=>(if l=true then (G (c.1,c.2.1)).bind fun m=>(H (c.1,c.2.1,m)).bind fun n=>some (c.1,c.2.1,n.2,c.2.2.2.2.2.1,n.1) else (Zz c.1 c.2.1 (↑(ByteArray.size c.1):Int)).bind fun o=>(I o).bind fun p=>(if decide (p=lit [])=true then some (c.1,c.2.1,11,c.2.2.2.2.2.1,qn.mk 4 p 0 c.2.1) else some (c.1,c.2.1,c.2.2.1,c.2.2.2.2.2.1,qn.mk 4 p 0 c.2.1)).bind fun r=>some r).bind fun m=>some m).bind fun i=>some (inr i)).bind fun d=>elim (fun e=>some (inl e)) (fun e=>if decide (e.2.2.1≠0)=true then some (inr (e.2.1,e.2.2.1)) else (zp 40 e.2.2.2.1 [e.2.2.2.2]).bind fun i=>some (inl (e.1,G5 (e.2.1+(↑e.2.2.2.2.T_.size:Int)),i))) d).bind fun b=>elim (fun c=>some (Step.next c)) (fun c=>some (Step.done (inl c))) b else some (Step.done (inr (a.1,a.2.2)))
def qg3 (A:wW) (B:Zg) (C:wW) (D:zh5) (E:Zg) (G:wW) (H:zh5) (I:zil) (x:Zr):G4 zos:=(if decide (16384 < (↑x.size:Int))=true then some (0,10,Sl.mk [] false) else (lpO (qcx A B C D E G H I) (x,0,Sl.mk [] false)).bind fun a=>elim (fun b=>some (b.1,b.2,Sl.mk [] false)) (fun b=>(zp 40 b.2 [qn.mk 0 (lit []) 0 (↑(ByteArray.size b.1):Int)]).bind fun c=>some (0,0,c)) a).bind fun a=>some a
def qa8:zh9:=qg3 qa1 q8m qbl qbo q70 qan qea qge
theorem qld:@Eq zh9 P15.F qa8:=by delta qa8;rw [<-qkh,<-qh1,<-ql0,<-qlb,<-qgn,<-qkw,<-qlm,<-qln];kernel_rfl
def qd8 (x:q8):G4 (qn×q8):=(zd x.Q_ 0).bind fun a=>some (a,x)
def q10:Y1:=qd8
theorem q2a:@Eq Y1 P16.F q10:=by kernel_rfl
def qf7 (A:Y1) (x:wX):G4 zF:=(A x.2).bind fun a=>(if decide (a.1.k_=2)=true then some (decide (a.1.T_=x.1),a.2) else if decide (a.1.k_=4)=true then some (decide (a.1.T_=x.1),a.2) else some (false,a.2)).bind fun b=>some b
def q21:wX->G4 zF:=qf7 q10
theorem q5n:@Eq ((wX)->G4 zF) P17.F q21:=by delta q21;rw [<-q2a];kernel_rfl
def qee (A:Zq) (x:wX):G4 zF:=(A x).bind fun a=>if (!a.1)=true then some (false,a.2) else (Zu a.2.Q_ 1 a.2.Q_.len).bind fun b=>some (true,q8.mk b a.2.D_)
def qx:wX->G4 zF:=qee q21
theorem q1b:@Eq ((wX)->G4 zF) P18.F qx:=by delta qx;rw [<-q5n];kernel_rfl
def qd9 (A:Y1) (x:Gs):G4 zg:=(A x.2).bind fun a=>some ((a.1.a_,x.1),a.2)
def q1k:Gs->G4 zg:=qd9 q10
theorem q4q:@Eq ((Int×q8)->G4 zg) P19.F q1k:=by delta q1k;rw [<-q2a];kernel_rfl
def qda (A:Y1) (B:V1) (x:Gs):G4 zfP:=(A x.2).bind fun a=>if decide (a.1.k_≠x.1)=true then (B (20,a.2)).bind fun b=>some (inl b) else (Zu a.2.Q_ 1 a.2.Q_.len).bind fun c=>some (inr (a.1,q8.mk c a.2.D_))
def q4f:Gs->G4 zfP:=qda q10 q1k
theorem qef:@Eq ((Int×q8)->G4 zfP) P20.F q4f:=by delta q4f;rw [<-q2a,<-q4q];kernel_rfl
def qdb (A:zs5) (x:q8):G4 ZY:=(A (1,x)).bind fun a=>elim (fun b=>some (inl b)) (fun b=>some (inr ((5,b.1.T_,0,b.1.a_),b.2))) a
def q16:XX:=qdb q4f
theorem q2j:@Eq XX P21.F q16:=by delta q16;rw [<-qef];kernel_rfl
def qdc (A:Zq) (B:V1) (x:wX):G4 Z3:=(A x).bind fun a=>if (!a.1)=true then (B (20,a.2)).bind fun b=>some (inl b) else some (inr a.2)
def q13:wX->G4 Z3:=qdc qx q1k
theorem q20:@Eq ((wX)->G4 Z3) P22.F q13:=by delta q13;rw [<-q1b,<-q4q];kernel_rfl
def qdd (A:Y1) (B:Zq) (C:xZ) (D:XX) (x:q8):G4 zog:=(A x).bind fun a=>(A a.2).bind fun b=>(B (lit [105,110,116],b.2)).bind fun c=>if c.1=true then some (inl (q7.mk 8 a.1.T_ 0 b.1.a_ (Sl.mk [] false),c.2)) else (B (lit [111,119,110],c.2)).bind fun d=>(if d.1=true then some (inl (d.2,(0,lit [],0,0),8,a.1.T_,0,b.1.a_)) else (C (lit [38],d.2)).bind fun e=>elim (fun i=>some (inr i)) (fun i=>(B (lit [109,117,116],i)).bind fun j=>(if j.1=true then some (j.2,(0,lit [],0,0),8,lit [38,109,117,116],0,b.1.a_) else some (j.2,(0,lit [],0,0),8,a.1.T_,0,b.1.a_)).bind fun (l:XA)=>some (inl l)) e).bind fun (e:q8×(Int×G1×Int×Int)×Int×G1×Int×Int⊕zY×q8)=>elim (fun i=>(D i.1).bind fun j=>elim (fun l=>some (inr l)) (fun l=>some (inl (q7.mk i.2.2.1 i.2.2.2.1 i.2.2.2.2.1 i.2.2.2.2.2 (Sl.mk [q7.mk l.1.1 l.1.2.1 l.1.2.2.1 l.1.2.2.2 (Sl.mk [] false)] true),l.2))) j) (fun i=>some (inr i)) e
def q89:zh6:=qdd q10 qx q13 q16
theorem qeg:@Eq zh6 P23.F q89:=by delta q89;rw [<-q2a,<-q1b,<-q20,<-q2j];kernel_rfl
def qcd (A:XX) (B:xZ) (C:zh6) (x:q8):G4 Zf:=(A x).bind fun a=>elim (fun b=>some (inl b)) (fun b=>(B (lit [58],b.2)).bind fun c=>elim (fun d=>some (inl d)) (fun d=>(C d).bind fun e=>elim (fun i=>some (inr ((7,b.1.2),i.2,Sl.mk [kg i.1] true))) (fun i=>some (inl i)) e) c) a
def q7a:ZL:=qcd q16 q13 q89
theorem qhp:@Eq ZL P24.F q7a:=by delta q7a;rw [<-q2j,<-q20,<-qeg];kernel_rfl
def q72 (A:ZL) (B:Zq):ym->G4 (Step ym yH):=fun a=>(B (lit [44],a.1)).bind fun b=>if b.1=true then (A b.2).bind fun c=>elim (fun d=>some (Step.done (inl d))) (fun d=>(zp 64 a.2 [q7.mk d.1.1 d.1.2.1 d.1.2.2.1 d.1.2.2.2 d.2.2]).bind fun e=>some (Step.next (d.2.1,e))) c else some (Step.done (inr (b.2,a.2)))
def qal (A:ZL) (B:Zq) (x:q8):G4 yH:=(A x).bind fun a=>elim (fun b=>some (inl b)) (fun b=>(lpO (q72 A B) (b.2.1,Sl.mk [q7.mk b.1.1 b.1.2.1 b.1.2.2.1 b.1.2.2.2 b.2.2] true)).bind fun c=>elim (fun d=>some (inl d)) (fun d=>some (inr d)) c) a
def q81:YI:=qal q7a qx
theorem qg7:@Eq YI P25.F q81:=by delta q81;rw [<-qhp,<-q1b];kernel_rfl
def qc1 (x:q7×Int):G4 (q7×Int):=some (q7.mk x.1.k_ x.1.T_ x.1.N_ x.2 x.1.K_,x.2)
def q6h:q7×Int->G4 (q7×Int):=qc1
theorem qh2:@Eq ((q7×Int)->G4 (q7×Int)) P26.F q6h:=by kernel_rfl
def qce (A:xZ) (x:q7×q8):G4 ZM:=(A (lit [59],x.2)).bind fun a=>elim (fun b=>some (inl b)) (fun b=>some (inr (kg x.1,b))) a
def q58:q7×q8->G4 ZM:=qce q13
theorem qhq:@Eq ((q7×q8)->G4 ZM) P27.F q58:=by delta q58;rw [<-q20];kernel_rfl
def qc2 (A:zs5) (x:Gs):G4 vn:=(A (3,x.2)).bind fun a=>elim (fun b=>some (inl b)) (fun b=>some (inr (G5 (x.1 * b.1.N_),b.2))) a
def q3w:Gs->G4 vn:=qc2 q4f
theorem q6p:@Eq ((Int×q8)->G4 vn) P28.F q3w:=by delta q3w;rw [<-qef];kernel_rfl
def qf8 (A:XX) (B:xZ) (C:zh1) (x:Gs):G4 ZY:=(A x.2).bind fun a=>elim (fun b=>some (inl b)) (fun b=>(B (lit [91],b.2)).bind fun c=>elim (fun d=>some (inl d)) (fun d=>(C (1,d)).bind fun e=>elim (fun i=>some (inl i)) (fun i=>(B (lit [93],i.2)).bind fun j=>elim (fun l=>some (inl l)) (fun l=>some (inr ((x.1,b.1.2.1,i.1,b.1.2.2.2),l))) j) e) c) a
def q98:Gs->G4 ZY:=qf8 q16 q13 q3w
theorem qk1:@Eq ((Int×q8)->G4 ZY) P29.F q98:=by delta q98;rw [<-q2j,<-q20,<-q6p];kernel_rfl
def qde (A:Zq) (B:zh1) (x:q7×q8):G4 ZM:=(A (lit [43],x.2)).bind fun a=>(if a.1=true then (B (1,a.2)).bind fun b=>elim (fun c=>some (inl c)) (fun c=>some (inr (c.2,q7.mk x.1.k_ x.1.T_ c.1 x.1.a_ x.1.K_,0,lit [],0,0))) b else (A (lit [45],a.2)).bind fun c=>(if c.1=true then (B (-1,c.2)).bind fun d=>elim (fun e=>some (inl e)) (fun e=>some (inr (e.2,q7.mk x.1.k_ x.1.T_ e.1 x.1.a_ x.1.K_,0,lit [],0,0))) d else some (inr (c.2,kg x.1,0,lit [],0,0))).bind fun (d:zs2)=>elim (fun e=>some (inl e)) (fun e=>some (inr (e.1,kg e.2.1,e.2.2))) d).bind fun (b:zs2)=>elim (fun c=>some (inl c)) (fun c=>some (inr (kg c.2.1,c.1))) b
def q4g:q7×q8->G4 ZM:=qde qx q3w
theorem qeh:@Eq ((q7×q8)->G4 ZM) P30.F q4g:=by delta q4g;rw [<-q1b,<-q6p];kernel_rfl
def qdf (A:Y1) (B:zh1) (C:Zq) (D:XX) (E:zn2) (x:q8):G4 ZM:=(A x).bind fun a=>(A a.2).bind fun b=>(if decide (b.1.k_=3)=true then (B (1,b.2)).bind fun c=>elim (fun d=>some (inl d)) (fun d=>some (inr (inl (d.2,5,lit [],d.1,a.1.a_)))) c else (C (lit [45],b.2)).bind fun d=>if d.1=true then (B (-1,d.2)).bind fun e=>elim (fun i=>some (inl i)) (fun i=>some (inr (inl (i.2,5,lit [],i.1,a.1.a_)))) e else some (inr (inr (d.2,0,lit [],0,0)))).bind fun (c:zY×q8⊕q8×Int×G1×Int×Int⊕q8×Int×G1×Int×Int)=>elim (fun d=>some (inl d)) (fun d=>elim (fun e=>some (inr (q7.mk e.2.1 e.2.2.1 e.2.2.2.1 e.2.2.2.2 (Sl.mk [] false),e.1))) (fun e=>((D e.1).bind fun i=>elim (fun j=>some (inl j)) (fun j=>(E (q7.mk j.1.1 j.1.2.1 j.1.2.2.1 j.1.2.2.2 (Sl.mk [] false),j.2)).bind fun l=>elim (fun m=>some (inl m)) (fun m=>some (inr (m.2,kg m.1))) l) i).bind fun (i:zin)=>elim (fun j=>some (inl j)) (fun j=>some (inr (kg j.2,j.1))) i) d) c
def q28:YJ:=qdf q10 q3w qx q16 q4g
theorem q5w:@Eq YJ P31.F q28:=by delta q28;rw [<-q2a,<-q6p,<-q1b,<-q2j,<-qeh];kernel_rfl
def q5r (A:Zq) (B:V1):zn0->G4 (Step zn0 (wX⊕q8)):=fun a=>if decide (a.2.1 < 3)=true then (WW [a.1.1,a.1.2.1,a.1.2.2] a.2.1).bind fun b=>(A (b,a.2.2)).bind fun c=>if c.1=true then some (Step.done (inl (b,c.2))) else some (Step.next (a.1,G5 (a.2.1+1),c.2)) else some (Step.done (inr a.2.2))
def qei (A:Zq) (B:V1) (x:q8):G4 zto:=(lpO (q5r A B) ((lit [60],lit [60,61],lit [61,61]),0,x)).bind fun a=>elim (fun b=>some (inl b)) (fun b=>(B (20,b)).bind fun c=>some (inr c)) a
def qbd:znX:=qei qx q1k
theorem qjd:@Eq znX P32.F qbd:=by delta qbd;rw [<-q1b,<-q4q];kernel_rfl
def qdg (A:YJ) (B:znX) (x:q8):G4 Zf:=(A x).bind fun a=>elim (fun b=>some (inl b)) (fun b=>(B b.2).bind fun c=>elim (fun d=>(A d.2).bind fun e=>elim (fun i=>some (inl i)) (fun i=>some (inr ((4,d.1,0,b.1.a_),i.2,Sl.mk [kg b.1,kg i.1] true))) e) (fun d=>some (inl d)) c) a
def q3p:ZL:=qdg q28 qbd
theorem qej:@Eq ZL P33.F q3p:=by delta q3p;rw [<-q5w,<-qjd];kernel_rfl
def q7y (A:YJ) (B:Zq):ym->G4 (Step ym yH):=fun a=>(B (lit [44],a.1)).bind fun b=>if b.1=true then (A b.2).bind fun c=>elim (fun d=>some (Step.done (inl d))) (fun d=>(zp 64 a.2 [kg d.1]).bind fun e=>some (Step.next (d.2,e))) c else some (Step.done (inr (b.2,a.2)))
def qba (A:YJ) (B:Zq) (x:q8):G4 yH:=(A x).bind fun a=>elim (fun b=>some (inl b)) (fun b=>(lpO (q7y A B) (b.2,Sl.mk [kg b.1] true)).bind fun c=>elim (fun d=>some (inl d)) (fun d=>some (inr d)) c) a
def q87:YI:=qba q28 qx
theorem qgg:@Eq YI P34.F q87:=by delta q87;rw [<-q5w,<-q1b];kernel_rfl
def qdh (A:xZ) (B:Zq) (C:YI) (x:q8):G4 yH:=(A (lit [40],x)).bind fun a=>elim (fun b=>some (inl b)) (fun b=>(B (lit [41],b)).bind fun c=>if c.1=true then some (inr (c.2,Sl.mk [] false)) else (C c.2).bind fun d=>elim (fun e=>some (inl e)) (fun e=>(A (lit [41],e.1)).bind fun i=>elim (fun j=>some (inl j)) (fun j=>some (inr (j,e.2))) i) d) a
def q4h:YI:=qdh q13 qx q87
theorem qb1:@Eq YI P35.F q4h:=by delta q4h;rw [<-q20,<-q1b,<-qgg];kernel_rfl
def qdi (A:Y1) (B:Zq) (C:zh1) (D:XX) (E:YJ) (G:Zq) (H:YI) (I:xZ) (J:zn2) (x:q8):G4 ZM:=(A x).bind fun a=>(B (lit [110,101,119],a.2)).bind fun b=>(if b.1=true then (C (1,b.2)).bind fun c=>elim (fun d=>some (inl d)) (fun d=>some (inr (inl (d.2,q7.mk 23 (lit []) d.1 a.1.a_ (Sl.mk [] false))))) c else (B (lit [97,114,114,97,121],b.2)).bind fun d=>(if d.1=true then (D d.2).bind fun e=>elim (fun i=>some (inl i)) (fun i=>some (inr (inl (i.2,q7.mk 24 i.1.2.1 0 a.1.a_ (Sl.mk [] false))))) e else (B (lit [38],d.2)).bind fun i=>(if i.1=true then (B (lit [109,117,116],i.2)).bind fun j=>(if j.1=true then some (j.2,(0,lit [],0,0),27,lit [],0,a.1.a_) else some (j.2,(0,lit [],0,0),26,lit [],0,a.1.a_)).bind fun (l:XA)=>(D l.1).bind fun m=>elim (fun n=>some (inl n)) (fun n=>some (inr (inl (n.2,q7.mk l.2.2.1 n.1.2.1 l.2.2.2.2.1 l.2.2.2.2.2 (Sl.mk [] false))))) m else (A i.2).bind fun n=>if decide (n.1.k_≠1)=true then (E n.2).bind fun o=>elim (fun p=>some (inl p)) (fun p=>some (inr (inl (p.2,kg p.1)))) o else some (inr (inr (n.2,(0,lit [],0,0),0,lit [],0,a.1.a_)))).bind fun (j:zsl)=>elim (fun l=>some (inl l)) (fun l=>elim (fun m=>some (inr (inl (m.1,kg m.2)))) (fun m=>some (inr (inr m))) l) j).bind fun (e:zsl)=>elim (fun i=>some (inl i)) (fun i=>elim (fun j=>some (inr (inl (j.1,kg j.2)))) (fun j=>some (inr (inr j))) i) e).bind fun (c:zsl)=>elim (fun d=>some (inl d)) (fun d=>elim (fun e=>some (inr (kg e.2,e.1))) (fun e=>(D e.1).bind fun i=>elim (fun j=>some (inl j)) (fun j=>(G (lit [40],j.2)).bind fun l=>(if l.1=true then (H l.2).bind fun m=>elim (fun n=>some (inl n)) (fun n=>some (inr (inl (n.1,(28,j.1.2),n.2)))) m else (B (lit [91],l.2)).bind fun n=>(if n.1=true then (E n.2).bind fun o=>elim (fun p=>some (inl p)) (fun p=>(I (lit [93],p.2)).bind fun r=>elim (fun s=>some (inl s)) (fun s=>some (inr (inl (s,(25,j.1.2),Sl.mk [kg p.1] true)))) r) o else some (inr (inr (n.2,e.2.1,j.1)))).bind fun (o:zsa)=>elim (fun p=>some (inl p)) (fun p=>elim (fun r=>some (inr (inl r))) (fun r=>some (inr (inr r))) p) o).bind fun (m:zsa)=>elim (fun n=>some (inl n)) (fun n=>elim (fun o=>some (inr (q7.mk o.2.1.1 o.2.1.2.1 o.2.1.2.2.1 o.2.1.2.2.2 o.2.2,o.1))) (fun o=>(yM (((G (lit [43],o.1)).bind fun p=>if p.1=true then (zd p.2.Q_ 1).bind fun r=>some (lit [43],21,decide (r.k_=1),p.2,o.2) else some (lit [43],21,false,p.2,o.2)).bind fun (p:znE)=>(if p.2.2.1=true then (I (p.1,p.2.2.2.1)).bind fun r=>elim (fun s=>some (inl (s.1,s.2,p.2.2.2.2))) (fun s=>(D s).bind fun t=>elim (fun u=>some (inl (u.1,u.2,p.2.2.2.2))) (fun u=>some (inr (inl (u.2,(p.2.1,lit [],0,p.2.2.2.2.2.2.2.2),p.2.2.2.2.2,Sl.mk [q7.mk p.2.2.2.2.2.1 p.2.2.2.2.2.2.1 p.2.2.2.2.2.2.2.1 p.2.2.2.2.2.2.2.2 (Sl.mk [] false),q7.mk u.1.1 u.1.2.1 u.1.2.2.1 u.1.2.2.2 (Sl.mk [] false)] true)))) t) r else some (inr (inr p.2.2.2))).bind fun (r:tA0)=>elim (fun s=>some (inl (s.1,s.2.1))) (fun s=>elim (fun t=>some (inr (inl (t.1,t.2.1,t.2.2.2)))) (fun t=>((G (lit [45],t.1)).bind fun u=>if u.1=true then (zd u.2.Q_ 1).bind fun v=>some (lit [45],22,decide (v.k_=1),u.2,t.2) else some (lit [45],22,false,u.2,t.2)).bind fun (u:znE)=>(if u.2.2.1=true then (I (u.1,u.2.2.2.1)).bind fun v=>elim (fun w=>some (inl (w.1,w.2,u.2.2.2.2))) (fun w=>(D w).bind fun z=>elim (fun K=>some (inl (K.1,K.2,u.2.2.2.2))) (fun K=>some (inr (inl (K.2,(u.2.1,lit [],0,u.2.2.2.2.2.2.2.2),u.2.2.2.2.2,Sl.mk [q7.mk u.2.2.2.2.2.1 u.2.2.2.2.2.2.1 u.2.2.2.2.2.2.2.1 u.2.2.2.2.2.2.2.2 (Sl.mk [] false),q7.mk K.1.1 K.1.2.1 K.1.2.2.1 K.1.2.2.2 (Sl.mk [] false)] true)))) z) v else some (inr (inr u.2.2.2))).bind fun (v:tA0)=>elim (fun w=>some (inl (w.1,w.2.1))) (fun w=>elim (fun z=>some (inr (inl (z.1,z.2.1,z.2.2.2)))) (fun z=>some (inr (inr z))) w) v) s) r) (((G (lit [45],o.1)).bind fun p=>if p.1=true then (zd p.2.Q_ 1).bind fun r=>some (lit [45],22,decide (r.k_=1),p.2,o.2) else some (lit [45],22,false,p.2,o.2)).bind fun (p:znE)=>(if p.2.2.1=true then (I (p.1,p.2.2.2.1)).bind fun r=>elim (fun s=>some (inl (s.1,s.2,p.2.2.2.2))) (fun s=>(D s).bind fun t=>elim (fun u=>some (inl (u.1,u.2,p.2.2.2.2))) (fun u=>some (inr (inl (u.2,(p.2.1,lit [],0,p.2.2.2.2.2.2.2.2),p.2.2.2.2.2,Sl.mk [q7.mk p.2.2.2.2.2.1 p.2.2.2.2.2.2.1 p.2.2.2.2.2.2.2.1 p.2.2.2.2.2.2.2.2 (Sl.mk [] false),q7.mk u.1.1 u.1.2.1 u.1.2.2.1 u.1.2.2.2 (Sl.mk [] false)] true)))) t) r else some (inr (inr p.2.2.2))).bind fun (r:tA0)=>elim (fun s=>some (inl (s.1,s.2.1))) (fun s=>elim (fun t=>some (inr (inl (t.1,t.2.1,t.2.2.2)))) (fun t=>((G (lit [43],t.1)).bind fun u=>if u.1=true then (zd u.2.Q_ 1).bind fun v=>some (lit [43],21,decide (v.k_=1),u.2,t.2) else some (lit [43],21,false,u.2,t.2)).bind fun (u:znE)=>(if u.2.2.1=true then (I (u.1,u.2.2.2.1)).bind fun v=>elim (fun w=>some (inl (w.1,w.2,u.2.2.2.2))) (fun w=>(D w).bind fun z=>elim (fun K=>some (inl (K.1,K.2,u.2.2.2.2))) (fun K=>some (inr (inl (K.2,(u.2.1,lit [],0,u.2.2.2.2.2.2.2.2),u.2.2.2.2.2,Sl.mk [q7.mk u.2.2.2.2.2.1 u.2.2.2.2.2.2.1 u.2.2.2.2.2.2.2.1 u.2.2.2.2.2.2.2.2 (Sl.mk [] false),q7.mk K.1.1 K.1.2.1 K.1.2.2.1 K.1.2.2.2 (Sl.mk [] false)] true)))) z) v else some (inr (inr u.2.2.2))).bind fun (v:tA0)=>elim (fun w=>some (inl (w.1,w.2.1))) (fun w=>elim (fun z=>some (inr (inl (z.1,z.2.1,z.2.2.2)))) (fun z=>some (inr (inr z))) w) v) s) r)).bind fun p=>elim (fun r=>some (inl r)) (fun r=>elim (fun s=>some (inr (q7.mk s.2.1.1 s.2.1.2.1 s.2.1.2.2.1 s.2.1.2.2.2 s.2.2,s.1))) (fun s=>(J (q7.mk s.2.2.1 s.2.2.2.1 s.2.2.2.2.1 s.2.2.2.2.2 (Sl.mk [] false),s.1)).bind fun t=>elim (fun u=>some (inl u)) (fun u=>some (inr (kg u.1,u.2))) t) r) p) n) m) i) d) c
def qaq:YJ:=qdi q10 qx q3w q16 q28 q21 q4h q13 q4g
theorem qik:@Eq YJ F36 qaq:=by delta qaq;rw [<-q2a,<-q1b,<-q6p,<-q2j,<-q5w,<-q5n,<-qb1,<-q20,<-qeh];kernel_rfl
def qcf (A:Zq) (B:YI) (C:Zq) (D:YJ) (E:xZ) (G:YJ) (x:q7×q8):G4 Zf:=(A (lit [40],x.2)).bind fun a=>(if a.1=true then (B a.2).bind fun b=>elim (fun c=>some (inl c)) (fun c=>some (inr (inl (c.1,(20,lit [],0,x.1.a_),Sl.mk [q7.mk 28 x.1.T_ x.1.N_ x.1.a_ c.2] true)))) b else (C (lit [91],a.2)).bind fun c=>(if c.1=true then (D c.2).bind fun d=>elim (fun e=>some (inl e)) (fun e=>(E (lit [93],e.2)).bind fun i=>elim (fun j=>some (inl j)) (fun j=>(E (lit [61],j)).bind fun l=>elim (fun m=>some (inl m)) (fun m=>(D m).bind fun n=>elim (fun o=>some (inl o)) (fun o=>some (inr (inl (o.2,(11,x.1.T_,x.1.N_,x.1.a_),Sl.mk ([kg e.1]++[kg o.1]) (true || ![kg o.1].isEmpty))))) n) l) i) d else some (inr (inr (c.2,kg x.1,0,lit [],0,0)))).bind fun (d:zwE)=>elim (fun e=>some (inl e)) (fun e=>elim (fun i=>some (inr (inl i))) (fun i=>some (inr (inr (i.1,kg i.2.1,i.2.2)))) e) d).bind fun (b:zwE)=>elim (fun c=>some (inl c)) (fun c=>elim (fun d=>some (inr (d.2.1,d.1,d.2.2))) (fun d=>(E (lit [61],d.1)).bind fun e=>elim (fun i=>some (inl i)) (fun i=>(G i).bind fun j=>elim (fun l=>some (inl l)) (fun l=>some (inr ((10,d.2.1.T_,d.2.1.N_,d.2.1.a_),l.2,Sl.mk [kg l.1] true))) j) e) c) b
def q7b:q7×q8->G4 Zf:=qcf q21 q4h qx q28 q13 qaq
theorem qhr:@Eq ((q7×q8)->G4 Zf) P37.F q7b:=by delta q7b;rw [<-q5n,<-qb1,<-q1b,<-q5w,<-q20,<-qik];kernel_rfl
def q69 (A:ZL) (B:ZL) (x:zdJ):G4 Zf:=(A x.2.2).bind fun a=>elim (fun b=>some (inl b)) (fun b=>(B b.2.1).bind fun c=>elim (fun d=>some (inl d)) (fun d=>(zp 64 b.2.2 [q7.mk d.1.1 d.1.2.1 d.1.2.2.1 d.1.2.2.2 d.2.2]).bind fun e=>some (inr ((x.1,b.1.2.1,b.1.2.2.1,x.2.1),d.2.1,e))) c) a
def q36 (h:ZL):zdJ->G4 Zf:=q69 q3p h
theorem qc3 (h:ZL):@Eq ((zdJ)->G4 Zf) (zmL h) (q36 h):=by delta q36;rw [<-qej];kernel_rfl
def q7u (A:Y1) (B:Zq) (C:XX) (D:q7×Int->G4 (q7×Int)) (E:zn2) (G:Gs->G4 ZY) (H:zdJ->G4 Zf) (I:ZL) (J:Zq) (K:YJ) (L:YI) (P:q7×q8->G4 Zf) (x:q8):G4 ZM:=(A x).bind fun a=>(B (lit [102,114,101,101],a.2)).bind fun b=>(if b.1=true then (C b.2).bind fun c=>elim (fun d=>some (inl d)) (fun d=>(D (q7.mk 12 d.1.2.1 d.1.2.2.1 d.1.2.2.2 (Sl.mk [] false),a.1.a_)).bind fun e=>(E (kg e.1,d.2)).bind fun i=>elim (fun j=>some (inl j)) (fun j=>some (inr (inl (j.2,kg j.1)))) i) c else (B (lit [108,111,99,107],b.2)).bind fun d=>(if d.1=true then ((G (13,d.2)).bind fun e=>elim (fun i=>some (inl i)) (fun i=>(D (q7.mk i.1.1 i.1.2.1 i.1.2.2.1 i.1.2.2.2 (Sl.mk [] false),a.1.a_)).bind fun j=>(E (kg j.1,i.2)).bind fun l=>elim (fun m=>some (inl m)) (fun m=>some (inr (m.2,kg m.1))) l) e).bind fun (e:zin)=>elim (fun i=>some (inl i)) (fun i=>some (inr (inl (i.1,kg i.2)))) e else (B (lit [117,110,108,111,99,107],d.2)).bind fun i=>(if i.1=true then ((G (14,i.2)).bind fun j=>elim (fun l=>some (inl l)) (fun l=>(D (q7.mk l.1.1 l.1.2.1 l.1.2.2.1 l.1.2.2.2 (Sl.mk [] false),a.1.a_)).bind fun m=>(E (kg m.1,l.2)).bind fun n=>elim (fun o=>some (inl o)) (fun o=>some (inr (o.2,kg o.1))) n) j).bind fun (j:zin)=>elim (fun l=>some (inl l)) (fun l=>some (inr (inl (l.1,kg l.2)))) j else (B (lit [105,102],i.2)).bind fun l=>(if l.1=true then (H (15,a.1.a_,l.2)).bind fun m=>elim (fun n=>some (inl n)) (fun n=>(B (lit [101,108,115,101],n.2.1)).bind fun o=>(if o.1=true then (I o.2).bind fun p=>elim (fun r=>some (inl r)) (fun r=>(zp 64 n.2.2 [q7.mk r.1.1 r.1.2.1 r.1.2.2.1 r.1.2.2.2 r.2.2]).bind fun s=>some (inr (r.2.1,(0,lit [],0,0),n.1,s))) p else (zp 64 n.2.2 [q7.mk 9 (lit []) 0 a.1.a_ (Sl.mk [] false)]).bind fun r=>some (inr (o.2,(0,lit [],0,0),n.1,r))).bind fun (p:zbT)=>elim (fun r=>some (inl r)) (fun r=>some (inr (inl (r.1,q7.mk r.2.2.1.1 r.2.2.1.2.1 r.2.2.1.2.2.1 r.2.2.1.2.2.2 r.2.2.2)))) p) m else (B (lit [119,104,105,108,101],l.2)).bind fun n=>(if n.1=true then (H (16,a.1.a_,n.2)).bind fun o=>elim (fun p=>some (inl p)) (fun p=>some (inr (inl (p.2.1,q7.mk p.1.1 p.1.2.1 p.1.2.2.1 p.1.2.2.2 p.2.2)))) o else (B (lit [114,101,116,117,114,110],n.2)).bind fun p=>(if p.1=true then (J (lit [59],p.2)).bind fun r=>(if (!r.1)=true then (K r.2).bind fun s=>elim (fun t=>some (inl t)) (fun t=>some (inr (t.2,(0,lit [],0,0),(17,lit [],0,a.1.a_),Sl.mk [kg t.1] true))) s else some (inr (r.2,(0,lit [],0,0),(17,lit [],0,a.1.a_),Sl.mk [] false))).bind fun (s:zbT)=>elim (fun t=>some (inl t)) (fun t=>(E (q7.mk t.2.2.1.1 t.2.2.1.2.1 t.2.2.1.2.2.1 t.2.2.1.2.2.2 t.2.2.2,t.1)).bind fun u=>elim (fun v=>some (inl v)) (fun v=>some (inr (inl (v.2,kg v.1)))) u) s else (B (lit [97,98,111,114,116],p.2)).bind fun t=>(if t.1=true then (E (q7.mk 18 (lit []) 0 a.1.a_ (Sl.mk [] false),t.2)).bind fun u=>elim (fun v=>some (inl v)) (fun v=>some (inr (inl (v.2,kg v.1)))) u else (B (lit [102,111,114,107],t.2)).bind fun v=>(if v.1=true then (C v.2).bind fun w=>elim (fun z=>some (inl z)) (fun z=>(L z.2).bind fun Q=>elim (fun R=>some (inl R)) (fun R=>(D (q7.mk 19 z.1.2.1 z.1.2.2.1 z.1.2.2.2 R.2,a.1.a_)).bind fun S=>(E (kg S.1,R.1)).bind fun T=>elim (fun U=>some (inl U)) (fun U=>some (inr (inl (U.2,kg U.1)))) T) Q) w else some (inr (inr (v.2,0,lit [],0,0)))).bind fun (w:VV)=>elim (fun z=>some (inl z)) (fun z=>elim (fun Q=>some (inr (inl (Q.1,kg Q.2)))) (fun Q=>some (inr (inr Q))) z) w).bind fun (u:VV)=>elim (fun v=>some (inl v)) (fun v=>elim (fun w=>some (inr (inl (w.1,kg w.2)))) (fun w=>some (inr (inr w))) v) u).bind fun (r:VV)=>elim (fun s=>some (inl s)) (fun s=>elim (fun t=>some (inr (inl (t.1,kg t.2)))) (fun t=>some (inr (inr t))) s) r).bind fun (o:VV)=>elim (fun p=>some (inl p)) (fun p=>elim (fun r=>some (inr (inl (r.1,kg r.2)))) (fun r=>some (inr (inr r))) p) o).bind fun (m:VV)=>elim (fun n=>some (inl n)) (fun n=>elim (fun o=>some (inr (inl (o.1,kg o.2)))) (fun o=>some (inr (inr o))) n) m).bind fun (j:VV)=>elim (fun l=>some (inl l)) (fun l=>elim (fun m=>some (inr (inl (m.1,kg m.2)))) (fun m=>some (inr (inr m))) l) j).bind fun (e:VV)=>elim (fun i=>some (inl i)) (fun i=>elim (fun j=>some (inr (inl (j.1,kg j.2)))) (fun j=>some (inr (inr j))) i) e).bind fun (c:VV)=>elim (fun d=>some (inl d)) (fun d=>elim (fun e=>some (inr (kg e.2,e.1))) (fun e=>((C e.1).bind fun i=>elim (fun j=>some (inl j)) (fun j=>(P (q7.mk j.1.1 j.1.2.1 j.1.2.2.1 j.1.2.2.2 (Sl.mk [] false),j.2)).bind fun l=>elim (fun m=>some (inl m)) (fun m=>(E (q7.mk m.1.1 m.1.2.1 m.1.2.2.1 m.1.2.2.2 m.2.2,m.2.1)).bind fun n=>elim (fun o=>some (inl o)) (fun o=>some (inr (o.2,kg o.1))) n) l) i).bind fun (i:zin)=>elim (fun j=>some (inl j)) (fun j=>some (inr (kg j.2,j.1))) i) d) c
def q30 (h:ZL):YJ:=q7u q10 qx q16 q6h q58 q98 (q36 h) h q21 q28 q4h q7b
theorem qdj (h:ZL):@Eq YJ (zmM h) (q30 h):=by delta q30;rw [<-q2a,<-q1b,<-q2j,<-qh2,<-qhq,<-qk1,<-qc3 h,<-q5n,<-q5w,<-qb1,<-qhr];kernel_rfl
def qcb (A:Y1) (B:Zq) (C:V1) (D:xZ) (E:Zq) (G:YJ):YX->G4 (Step YX zbT):=fun a=>(E (lit [125],a.1)).bind fun b=>if (!b.1)=true then (G b.2).bind fun c=>elim (fun d=>some (Step.done (inl d))) (fun d=>(zp 64 a.2.2.2 [kg d.1]).bind fun e=>some (Step.next (d.2,a.2.1,a.2.2.1,e))) c else some (Step.done (inr (b.2,a.2)))
def q6q (A:Y1) (B:Zq) (C:V1) (D:xZ) (E:Zq) (G:YJ) (x:q8):G4 Zf:=(A x).bind fun a=>((B (lit [123],a.2)).bind fun b=>if b.1=true then some (decide (8<=b.2.D_),b.2,(0,lit [],0,0),9,lit [],0,a.1.a_) else some (false,b.2,(0,lit [],0,0),9,lit [],0,a.1.a_)).bind fun b=>if b.1=true then (C (21,b.2.1)).bind fun c=>some (inl c) else (D (lit [123],b.2.1)).bind fun d=>elim (fun e=>some (inl e)) (fun e=>(lpO (qcb A B C D E G) (q8.mk e.Q_ (G5 (e.D_+1)),b.2.2.1,b.2.2.2,Sl.mk [] false)).bind fun i=>elim (fun j=>some (inl j)) (fun j=>some (inr (j.2.2.1,q8.mk j.1.Q_ (G5 (j.1.D_ - 1)),j.2.2.2))) i) d
def q6r (h:ZL):ZL:=q6q q10 q21 q1k q13 qx (q30 h)
theorem qh3 (h:ZL):@Eq ZL (zmN h) (q6r h):=by delta q6r;rw [<-q2a,<-q5n,<-q4q,<-q20,<-q1b,<-qdj h];kernel_rfl
def q2w:Nat->q8->G4 Zf
  |0=>fun _=>none
  |k+1=>q6r (q2w k)
theorem q6s:∀ k,@Eq ZL (zjG k) (q2w k)
  |0=>rfl
  |k+1=>(qh3 (zjG k)).trans (congrArg q6r (q6s k))
def qaa:ZL:=q2w 100000
theorem qhs:@Eq ZL F40 qaa:=q6s 100000
def qf9 (A:XX) (B:xZ) (C:Zq) (D:YI) (E:Zq) (G:V1) (H:zh6) (I:Y1) (J:ZL) (x:Gs):G4 Zf:=(A x.2).bind fun a=>elim (fun b=>some (inl b)) (fun b=>(B (lit [40],b.2)).bind fun c=>elim (fun d=>some (inl d)) (fun d=>(C (lit [41],d)).bind fun e=>(if (!e.1)=true then (D e.2).bind fun i=>elim (fun j=>some (inl j)) (fun j=>some (inr (j.1,(0,lit [],0,0),(6,b.1.2.1,b.1.2.2.1,x.1),j.2))) i else some (inr (e.2,(0,lit [],0,0),(6,b.1.2.1,b.1.2.2.1,x.1),Sl.mk [] false))).bind fun (i:zbT)=>elim (fun j=>some (inl j)) (fun j=>(B (lit [41],j.1)).bind fun l=>elim (fun m=>some (inl m)) (fun m=>(E (lit [45,62],m)).bind fun n=>(if n.1=true then (C (lit [38],n.2)).bind fun o=>if o.1=true then (G (20,o.2)).bind fun p=>some (inl p) else (H o.2).bind fun r=>elim (fun s=>some (inr (s.2,j.2.1,j.2.2.1,kg s.1,j.2.2.2))) (fun s=>some (inl s)) r else (I n.2).bind fun s=>some (inr (s.2,j.2.1,j.2.2.1,q7.mk 8 (lit []) 0 s.1.a_ (Sl.mk [] false),j.2.2.2))).bind fun (o:zY×q8⊕q8×(Int×G1×Int×Int)×(Int×G1×Int×Int)×q7×Sl q7)=>elim (fun p=>some (inl p)) (fun p=>(J p.1).bind fun r=>elim (fun s=>some (inl s)) (fun s=>(zp 64 p.2.2.2.2 [kg p.2.2.2.1,q7.mk s.1.1 s.1.2.1 s.1.2.2.1 s.1.2.2.2 s.2.2]).bind fun t=>some (inr (p.2.2.1,s.2.1,t))) r) o) l) i) c) a
def q99:Gs->G4 Zf:=qf9 q16 q13 q21 q81 qx q1k q89 q10 qaa
theorem qk2:@Eq ((Int×q8)->G4 Zf) P41.F q99:=by delta q99;rw [<-q2j,<-q20,<-q5n,<-qg7,<-q1b,<-q4q,<-qeg,<-q2a,<-qhs];kernel_rfl
def qdk (A:Y1) (B:Zq) (C:XX) (D:V1) (x:q8):G4 zsX:=(A x).bind fun a=>(A a.2).bind fun b=>(B (lit [111,119,110],b.2)).bind fun c=>(if c.1=true then some (c.1,c.2,(0,lit [],0,0),2,a.1.T_,0,b.1.a_) else (B (lit [99,101,108,108],c.2)).bind fun d=>some (d.1,d.2,(0,lit [],0,0),2,a.1.T_,0,b.1.a_)).bind fun (d:zhY)=>(if d.1=true then some (inl (d.2.1,d.2.2.1,d.2.2.2,Sl.mk [] false)) else (B (lit [99,111,117,110,116,101,100],d.2.1)).bind fun e=>(if e.1=true then some (e.1,e.2,d.2.2) else (B (lit [108,111,99,107],e.2)).bind fun i=>(if i.1=true then some (i.1,i.2,d.2.2) else (B (lit [103,117,97,114,100],i.2)).bind fun j=>some (j.1,j.2,d.2.2)).bind fun (j:zhY)=>some j).bind fun (i:zhY)=>(if i.1=true then (C i.2.1).bind fun j=>elim (fun l=>some (inl l)) (fun l=>some (inr (l.2,i.2.2.1,i.2.2.2,Sl.mk [q7.mk l.1.1 l.1.2.1 l.1.2.2.1 l.1.2.2.2 (Sl.mk [] false)] true))) j else (D (20,i.2.1)).bind fun l=>some (inl l)).bind fun (j:zbT)=>elim (fun l=>some (inr l)) (fun l=>some (inl l)) j).bind fun (e:q8×(Int×G1×Int×Int)×(Int×G1×Int×Int)×Sl q7⊕zY×q8)=>elim (fun i=>some (inl (i.2.2.1,i.1,i.2.2.2))) (fun i=>some (inr i)) e
def qap:znI:=qdk q10 qx q16 q1k
theorem qim:@Eq znI P42.F qap:=by delta qap;rw [<-q2a,<-q1b,<-q2j,<-q4q];kernel_rfl
def qcg (A:XX) (B:Zq) (C:xZ) (x:q8):G4 Zf:=(A x).bind fun a=>elim (fun b=>some (inl b)) (fun b=>(B (lit [91],b.2)).bind fun c=>(if c.1=true then (A c.2).bind fun d=>elim (fun e=>some (inl e)) (fun e=>(C (lit [93],e.2)).bind fun i=>elim (fun j=>some (inl j)) (fun j=>some (inr (j,(0,lit [],0,0),(3,b.1.2),Sl.mk [q7.mk e.1.1 e.1.2.1 e.1.2.2.1 e.1.2.2.2 (Sl.mk [] false)] true))) i) d else some (inr (c.2,(0,lit [],0,0),(3,b.1.2),Sl.mk [] false))).bind fun (d:zbT)=>elim (fun e=>some (inl e)) (fun e=>some (inr (e.2.2.1,e.1,e.2.2.2))) d) a
def q79:ZL:=qcg q16 qx q13
theorem qht:@Eq ZL P43.F q79:=by delta q79;rw [<-q2j,<-q1b,<-q20];kernel_rfl
def q71 (A:ZL) (B:Zq):ym->G4 (Step ym yH):=fun a=>(B (lit [44],a.1)).bind fun b=>if b.1=true then (A b.2).bind fun c=>elim (fun d=>some (Step.done (inl d))) (fun d=>(zp 64 a.2 [q7.mk d.1.1 d.1.2.1 d.1.2.2.1 d.1.2.2.2 d.2.2]).bind fun e=>some (Step.next (d.2.1,e))) c else some (Step.done (inr (b.2,a.2)))
def qam (A:ZL) (B:Zq) (x:q8):G4 yH:=(A x).bind fun a=>elim (fun b=>some (inl b)) (fun b=>(lpO (q71 A B) (b.2.1,Sl.mk [q7.mk b.1.1 b.1.2.1 b.1.2.2.1 b.1.2.2.2 b.2.2] true)).bind fun c=>elim (fun d=>some (inl d)) (fun d=>some (inr d)) c) a
def q80:YI:=qam q79 qx
theorem qg8:@Eq YI P44.F q80:=by delta q80;rw [<-qht,<-q1b];kernel_rfl
def q7z (A:ZL) (B:Zq):ym->G4 (Step ym yH):=fun a=>(B (lit [44],a.1)).bind fun b=>if b.1=true then (A b.2).bind fun c=>elim (fun d=>some (Step.done (inl d))) (fun d=>(zp 64 a.2 [q7.mk d.1.1 d.1.2.1 d.1.2.2.1 d.1.2.2.2 d.2.2]).bind fun e=>some (Step.next (d.2.1,e))) c else some (Step.done (inr (b.2,a.2)))
def qbb (A:ZL) (B:Zq) (x:q8):G4 yH:=(A x).bind fun a=>elim (fun b=>some (inl b)) (fun b=>(lpO (q7z A B) (b.2.1,Sl.mk [q7.mk b.1.1 b.1.2.1 b.1.2.2.1 b.1.2.2.2 b.2.2] true)).bind fun c=>elim (fun d=>some (inl d)) (fun d=>some (inr d)) c) a
def q88:YI:=qbb q3p qx
theorem qgh:@Eq YI P45.F q88:=by delta q88;rw [<-qej,<-q1b];kernel_rfl
def qek (A:XX) (B:znI) (C:Zq) (D:YI) (E:xZ) (G:YI) (x:Gs):G4 Zf:=(A x.2).bind fun a=>elim (fun b=>some (inl b)) (fun b=>(B b.2).bind fun c=>elim (fun d=>(C (lit [123],d.2.1)).bind fun e=>(if e.1=true then (D e.2).bind fun i=>elim (fun j=>some (inl j)) (fun j=>(zp 64 (Sl.mk [q7.mk d.1.1 d.1.2.1 d.1.2.2.1 d.1.2.2.2 d.2.2] true) j.2.xs).bind fun l=>(E (lit [125],j.1)).bind fun m=>elim (fun n=>some (inl n)) (fun n=>some (inr (n,(0,lit [],0,0),(1,b.1.2.1,b.1.2.2.1,x.1),l))) m) i else some (inr (e.2,(0,lit [],0,0),(1,b.1.2.1,b.1.2.2.1,x.1),Sl.mk [q7.mk d.1.1 d.1.2.1 d.1.2.2.1 d.1.2.2.2 d.2.2] true))).bind fun (i:zbT)=>elim (fun j=>some (inl j)) (fun j=>(C (lit [119,104,101,114,101],j.1)).bind fun l=>(if l.1=true then (G l.2).bind fun m=>elim (fun n=>some (inl n)) (fun n=>(zp 64 j.2.2.2 n.2.xs).bind fun o=>some (inr (n.1,j.2.1,j.2.2.1,o))) m else some (inr (l.2,j.2))).bind fun (m:zbT)=>elim (fun n=>some (inl n)) (fun n=>(E (lit [59],n.1)).bind fun o=>elim (fun p=>some (inl p)) (fun p=>some (inr (n.2.2.1,p,n.2.2.2))) o) m) i) (fun d=>some (inl d)) c) a
def q8v:Gs->G4 Zf:=qek q16 qap qx q80 q13 q88
theorem qje:@Eq ((Int×q8)->G4 Zf) P46.F q8v:=by delta q8v;rw [<-q2j,<-qim,<-q1b,<-qg8,<-q20,<-qgh];kernel_rfl
def qab (A:XC):zoj->G4 (Step zoj Int):=fun a=>if decide (a.2.2.2 < a.2.2.1)=true then (zd a.2.1 a.2.2.2).bind fun b=>(A (kg b)).bind fun c=>some (Step.next (G5 (a.1+c),a.2.1,a.2.2.1,G5 (a.2.2.2+1))) else some (Step.done a.1)
def qbz (A:XC) (x:q7):Gc:=(lpO (qab A) (1,x.K_,x.K_.len,0)).bind fun a=>some a
def qc0 (h:XC):XC:=qbz h
theorem ql3 (h:XC):@Eq XC (zmO h) (qc0 h):=by kernel_rfl
def q4i:Nat->q7->G4 Int
  |0=>fun _=>none
  |k+1=>qc0 (q4i k)
theorem qhu:∀ k,@Eq XC (zjH k) (q4i k)
  |0=>rfl
  |k+1=>(ql3 (zjH k)).trans (congrArg qc0 (qhu k))
def qcy:XC:=q4i 100000
theorem ql5:@Eq XC F47 qcy:=qhu 100000
def qdl (x:VU):G4 YY:=some ((0,lit [],0,0),x.1.1,x.1.2,x.2.2.2.2)
def qar:VU->G4 YY:=qdl
theorem qin:@Eq ((VU)->G4 YY) F48 qar:=by kernel_rfl
def qc4 (x:YY):G4 YY:=some x
def q9n:YY->G4 YY:=qc4
theorem qh5:@Eq ((YY)->G4 YY) F49 q9n:=by kernel_rfl
def q4t (A:zh9) (B:Y1) (C:Zq) (D:zhS) (E:xZ) (G:zhS) (H:zwx) (I:XC) (J:zwB):zds->G4 (Step zds zwz):=fun a=>(B a.2.2.2.1).bind fun b=>if decide (b.1.k_≠0)=true then ((B b.2).bind fun c=>(C (lit [102,110],c.2)).bind fun d=>if d.1=true then ((D (c.1.a_,d.2)).bind fun e=>elim (fun i=>some (inl (i.1,a.1,a.2.1,a.2.2.1,a.2.2.2.2))) (fun i=>(zp 64 a.2.2.2.2 [q7.mk 0 (lit []) 0 0 (Sl.mk [] false)]).bind fun j=>(zd j (Sl.len a.2.2.2.2)).bind fun l=>yM ((zd j (Sl.len a.2.2.2.2)).bind fun m=>some (inr (a.1,a.2.1,a.2.2.1,i.2.1,j.set (Sl.len a.2.2.2.2) (q7.mk i.1.1 i.1.2.1 i.1.2.2.1 i.1.2.2.2 i.2.2)))) ((zd j (Sl.len a.2.2.2.2)).bind fun m=>some (inr (a.1,a.2.1,a.2.2.1,i.2.1,j.set (Sl.len a.2.2.2.2) (q7.mk i.1.1 i.1.2.1 i.1.2.2.1 i.1.2.2.2 i.2.2))))) e).bind fun e=>elim (fun i=>some (inl i)) (fun i=>some (inr i)) e else (E (lit [116,121,112,101],d.2)).bind fun i=>elim (fun j=>some (inl (j.1,a.1,a.2.1,a.2.2.1,a.2.2.2.2))) (fun j=>((G (c.1.a_,j)).bind fun l=>elim (fun m=>some (inl (m.1,a.1,a.2.1,a.2.2.1,a.2.2.2.2))) (fun m=>(zp 64 a.2.2.2.2 [q7.mk 0 (lit []) 0 0 (Sl.mk [] false)]).bind fun n=>(zd n (Sl.len a.2.2.2.2)).bind fun o=>yM ((zd n (Sl.len a.2.2.2.2)).bind fun p=>some (inr (a.1,a.2.1,a.2.2.1,m.2.1,n.set (Sl.len a.2.2.2.2) (q7.mk m.1.1 m.1.2.1 m.1.2.2.1 m.1.2.2.2 m.2.2)))) ((zd n (Sl.len a.2.2.2.2)).bind fun p=>some (inr (a.1,a.2.1,a.2.2.1,m.2.1,n.set (Sl.len a.2.2.2.2) (q7.mk m.1.1 m.1.2.1 m.1.2.2.1 m.1.2.2.2 m.2.2))))) l).bind fun l=>elim (fun m=>some (inl m)) (fun m=>some (inr m)) l) i).bind fun c=>elim (fun d=>some (Step.done (inl d))) (fun d=>some (Step.next d)) c else some (Step.done (inr (a.1,a.2.1,a.2.2.1,a.2.2.2.2)))
def qgy (A:zh9) (B:Y1) (C:Zq) (D:zhS) (E:xZ) (G:zhS) (H:zwx) (I:XC) (J:zwB) (x:Zr):G4 zfU:=(A x).bind fun a=>if decide (a.2.1≠0)=true then some (q7.mk 0 (lit []) 0 0 (Sl.mk [] false),a.1,a.2.1) else (lpO (q4t A B C D E G H I J) ((0,lit [],0,0),a.1,a.2.1,q8.mk a.2.2 0,Sl.mk [] false)).bind fun b=>elim (fun c=>(H c).bind fun d=>some (q7.mk d.1.1 d.1.2.1 d.1.2.2.1 d.1.2.2.2 (Sl.mk [] false),d.2.1,d.2.2.1)) (fun c=>(I (q7.mk c.1.1 c.1.2.1 c.1.2.2.1 c.1.2.2.2 c.2.2.2)).bind fun d=>if decide (4096 < d)=true then (J ((0,lit [],0,0),0,22,Sl.mk [] false)).bind fun e=>some (q7.mk e.1.1 e.1.2.1 e.1.2.2.1 e.1.2.2.2 e.2.2.2,e.2.1,e.2.2.1) else (J (c.1,0,0,c.2.2.2)).bind fun i=>some (q7.mk i.1.1 i.1.2.1 i.1.2.2.1 i.1.2.2.2 i.2.2.2,i.2.1,i.2.2.1)) b
def q1o:V2:=qgy qa8 q10 qx q99 q13 q8v qar qcy q9n
theorem q8p:@Eq V2 F50 q1o:=by delta q1o;rw [<-qld,<-q2a,<-q1b,<-qk2,<-q20,<-qje,<-qin,<-ql5,<-qh5];kernel_rfl
def q6f:zfL->G4 (Step zfL ziI):=fun a=>if decide (a.2.2.1 < a.2.1)=true then (zd a.1 a.2.2.1).bind fun b=>(if decide (b.k_=3)=true then (zp 64 a.2.2.2.1 [kg b]).bind fun c=>some (a.1,a.2.1,a.2.2.1,c,a.2.2.2.2) else (if decide (b.k_=4)=true then (zp 64 a.2.2.2.2 [kg b]).bind fun d=>some (a.1,a.2.1,a.2.2.1,a.2.2.2.1,d) else some a).bind fun d=>some d).bind fun c=>some (Step.next (c.1,c.2.1,G5 (c.2.2.1+1),c.2.2.2)) else some (Step.done a.2.2.2)
def qfk (x:q7):G4 ziI:=(lpO q6f (x.K_,x.K_.len,0,Sl.mk [] false,Sl.mk [] false)).bind fun a=>some a
def q83:zdD:=qfk
theorem ql6:@Eq zdD P51.F q83:=by kernel_rfl
def qae (x:ziD):G4 ZZ:=some (decide (x.1.n_=x.2),x.2)
def q5t:ziD->G4 ZZ:=qae
theorem qio:@Eq ((ziD)->G4 ZZ) P52.F q5t:=by kernel_rfl
def qf6 (A:ztd):zod->G4 (Step zod V5):=fun a=>if decide (a.2.2.1 < a.2.1)=true then (zd a.1 a.2.2.1).bind fun b=>(A (b,a.2.2.2)).bind fun c=>if c.1=true then some (Step.done (inl (a.2.2.1,c.2))) else some (Step.next (a.1,a.2.1,G5 (a.2.2.1+1),c.2)) else some (Step.done (inr a.2.2.2))
def qbf (A:ztd) (x:zbZ):G4 yr:=(lpO (qf6 A) (x.1,Sl.len x.1,0,x.2)).bind fun a=>elim (fun b=>some b) (fun b=>some (-1,b)) a
def q9h:zbZ->G4 yr:=qbf q5t
theorem qk3:@Eq ((zbZ)->G4 yr) P53.F q9h:=by delta q9h;rw [<-qio];kernel_rfl
def qbg (A:zbZ->G4 yr) (x:zbZ):Gc:=(A x).bind fun a=>some a.1
def q23:zbZ->Gc:=qbg q9h
theorem q9j:@Eq ((zbZ)->G4 Int) P54.F q23:=by delta q23;rw [<-qk3];kernel_rfl
def qg4 (x:ziB):G4 YK:=if (!x.1)=true then some (inl (x.2.1.a_,x.2.2)) else some (inr ())
def q51:ziB->G4 YK:=qg4
theorem qgo:@Eq ((ziB)->G4 YK) P55.F q51:=by kernel_rfl
def qd3 (x:V7):G4 ZZ:=some (decide (x.1.T_=x.2),x.2)
def q9a:V7->G4 ZZ:=qd3
theorem ql1:@Eq ((V7)->G4 ZZ) P56.F q9a:=by kernel_rfl
def qd7 (A:zh3):zdB->G4 (Step zdB V5):=fun a=>if decide (a.2.2.1 < a.2.1)=true then (zd a.1 a.2.2.1).bind fun b=>(A (kg b,a.2.2.2)).bind fun c=>if c.1=true then some (Step.done (inl (a.2.2.1,c.2))) else some (Step.next (a.1,a.2.1,G5 (a.2.2.1+1),c.2)) else some (Step.done (inr a.2.2.2))
def qaf (A:zh3) (x:XB):G4 yr:=(lpO (qd7 A) (x.1,Sl.len x.1,0,x.2)).bind fun a=>elim (fun b=>some b) (fun b=>some (-1,b)) a
def q8j:XB->G4 yr:=qaf q9a
theorem qip:@Eq ((XB)->G4 yr) P57.F q8j:=by delta q8j;rw [<-ql1];kernel_rfl
def q92 (A:zs9) (x:XB):G4 ZZ:=(A x).bind fun a=>some (decide (0<=a.1),a.2)
def q6o:XB->G4 ZZ:=q92 q8j
theorem qh6:@Eq ((XB)->G4 ZZ) P58.F q6o:=by delta q6o;rw [<-qip];kernel_rfl
def qfl (A:XB->G4 ZZ) (x:XB):Gl:=(A x).bind fun a=>some a.1
def q82:XB->Gl:=qfl q6o
theorem ql7:@Eq ((XB)->G4 Bool) P59.F q82:=by delta q82;rw [<-qh6];kernel_rfl
def q6j (x:V7):G4 ZZ:=(if decide (x.1.T_=x.2)=true then some (decide (x.1.K_.len=0),x.2) else some (false,x.2)).bind fun a=>some a
def q47:V7->G4 ZZ:=q6j
theorem qhv:@Eq ((V7)->G4 ZZ) P60.F q47:=by kernel_rfl
def qcc (A:zh3):zdB->G4 (Step zdB V5):=fun a=>if decide (a.2.2.1 < a.2.1)=true then (zd a.1 a.2.2.1).bind fun b=>(A (kg b,a.2.2.2)).bind fun c=>if c.1=true then some (Step.done (inl (a.2.2.1,c.2))) else some (Step.next (a.1,a.2.1,G5 (a.2.2.1+1),c.2)) else some (Step.done (inr a.2.2.2))
def q9u (A:zh3) (x:XB):G4 yr:=(lpO (qcc A) (x.1,Sl.len x.1,0,x.2)).bind fun a=>elim (fun b=>some b) (fun b=>some (-1,b)) a
def q7t:XB->G4 yr:=q9u q47
theorem qhw:@Eq ((XB)->G4 yr) P61.F q7t:=by delta q7t;rw [<-qhv];kernel_rfl
def qaw (A:zs9) (x:zom):Gc:=(A (x.2.2,x.2.1)).bind fun a=>some a.1
def q2p:zom->Gc:=qaw q7t
theorem qbi:@Eq ((zom)->G4 Int) P62.F q2p:=by delta q2p;rw [<-qhw];kernel_rfl
def q1g:zn6->G4 (Step zn6 zdK):=fun a=>if decide (a.2.2.2 < a.2.2.1)=true then (zd a.1 a.2.2.2).bind fun b=>if decide (a.2.1=b)=true then some (Step.done (inl a.2.2.2)) else some (Step.next (a.1,a.2.1,a.2.2.1,G5 (a.2.2.2+1))) else some (Step.done (inr ()))
def q63 (x:zio):Gc:=(lpO q1g (x.1,x.2,Sl.len x.1,0)).bind fun a=>elim (fun b=>some b) (fun b=>some (-1)) a
def q2e:zio->Gc:=q63
theorem qai:@Eq ((zio)->G4 Int) P63.F q2e:=by kernel_rfl
def q8y (A:ztl) (B:zdy) (C:zdu) (D:zbX) (x:znL):G4 zan:=(A (Sl.mk [lit [111,119,110],lit [99,101,108,108],lit [99,111,117,110,116,101,100],lit [108,111,99,107],lit [103,117,97,114,100]] true,x.2.1.T_)).bind fun a=>(if decide (a=2)=true then some (x.1,x.2.2.1,x.2.2.2.1,a,decide (a=2),(x.2.2.2.2.1.1,a,x.2.2.2.2.1.2.2),x.2.2.2.2.2.1,x.2.2.2.2.2.2,kg x.2.1) else some (x.1,x.2.2.1,x.2.2.2.1,a,decide (a=3),(x.2.2.2.2.1.1,a,x.2.2.2.2.1.2.2),x.2.2.2.2.2.1,x.2.2.2.2.2.2,kg x.2.1)).bind fun b=>(if b.2.2.2.2.1=true then (zd b.2.2.2.2.2.2.2.2.K_ 0).bind fun c=>(B (qa.mk b.2.2.2.2.2.1.1 b.2.2.2.2.2.1.2.1 b.2.2.2.2.2.1.2.2 b.2.2.2.2.2.2.1 b.2.2.2.2.2.2.2.1,c.T_,b.2.1)).bind fun d=>(C (decide (0<=d),kg b.2.2.2.2.2.2.2.2,32)).bind fun e=>elim (fun i=>some (inl (i,(b.2.2.2.2.2.1.1,b.2.2.2.2.2.1.2.1,d),b.2.2.2.2.2.2.1,b.2.2.2.2.2.2.2.1))) (fun i=>some (inr ((b.2.2.2.2.2.1.1,b.2.2.2.2.2.1.2.1,d),b.2.2.2.2.2.2.1,b.2.2.2.2.2.2.2.1))) e else (if decide (b.2.2.2.1=4)=true then (zd b.2.2.2.2.2.2.2.2.K_ 0).bind fun i=>(D (b.1,i.T_)).bind fun j=>(if decide (0<=j)=true then (zd b.1 j).bind fun l=>(C (decide (l.s_=3),kg b.2.2.2.2.2.2.2.2,31)).bind fun m=>elim (fun n=>some (inl (n,(b.2.2.2.2.2.1.1,b.2.2.2.2.2.1.2.1,j),b.2.2.2.2.2.2.1,b.2.2.2.2.2.2.2.1))) (fun n=>some (inr (b.2.1,b.2.2.1,(b.2.2.2.2.2.1.1,b.2.2.2.2.2.1.2.1,j),b.2.2.2.2.2.2.1,b.2.2.2.2.2.2.2.1,kg b.2.2.2.2.2.2.2.2))) m else (C (false,kg b.2.2.2.2.2.2.2.2,31)).bind fun n=>elim (fun o=>some (inl (o,(b.2.2.2.2.2.1.1,b.2.2.2.2.2.1.2.1,j),b.2.2.2.2.2.2.1,b.2.2.2.2.2.2.2.1))) (fun o=>some (inr (b.2.1,b.2.2.1,(b.2.2.2.2.2.1.1,b.2.2.2.2.2.1.2.1,j),b.2.2.2.2.2.2.1,b.2.2.2.2.2.2.2.1,kg b.2.2.2.2.2.2.2.2))) n).bind fun l=>elim (fun m=>some (inl m)) (fun m=>(C (decide (G5 (Sl.len m.1+Sl.len m.2.1)=0),kg m.2.2.2.2.2,32)).bind fun n=>elim (fun o=>some (inl (o,m.2.2.1,m.2.2.2.1,m.2.2.2.2.1))) (fun o=>some (inr (m.2.2.1,m.2.2.2.1,m.2.2.2.2.1))) n) l else some (inr (b.2.2.2.2.2.1,b.2.2.2.2.2.2.1,b.2.2.2.2.2.2.2.1))).bind fun i=>elim (fun j=>some (inl j)) (fun j=>some (inr j)) i).bind fun c=>elim (fun d=>some (inl d)) (fun d=>some (inr d)) c
def q3l:znL->G4 zan:=q8y q2e q2p q51 q23
theorem qk4:@Eq ((znL)->G4 zan) P64.F q3l:=by delta q3l;rw [<-qai,<-qbi,<-qgo,<-q9j];kernel_rfl
def qbv (x:V3):G4 (Sl qr):=(if decide (x.1=lit [60])=true then some (inl (Sl.mk [qr.mk x.2.1 x.2.2.1 (G5 (G5 (x.2.2.2.2 - x.2.2.2.1) - 1))] true)) else (if decide (x.1=lit [60,61])=true then some (inl (Sl.mk [qr.mk x.2.1 x.2.2.1 (G5 (x.2.2.2.2 - x.2.2.2.1))] true)) else if decide (x.1=lit [61,61])=true then some (inl (Sl.mk [qr.mk x.2.1 x.2.2.1 (G5 (x.2.2.2.2 - x.2.2.2.1)),qr.mk x.2.2.1 x.2.1 (G5 (x.2.2.2.1 - x.2.2.2.2))] true)) else some (inr ())).bind fun a=>elim (fun b=>some (inl b)) (fun b=>some (inr ())) a).bind fun a=>elim (fun b=>some b) (fun b=>some (Sl.mk [] false)) a
def q84:V3->G4 (Sl qr):=qbv
theorem ql8:@Eq ((V3)->G4 (Sl qr)) P65.F q84:=by kernel_rfl
def q73 (A:zdy) (B:zdu) (C:zs3):zkz->G4 (Step zkz zwA):=fun a=>if decide (a.2.2.2.1 < a.2.2.1)=true then ((zd a.2.1 a.2.2.2.1).bind fun b=>if decide (b.T_=lit [])=true then some (inl (a.1,a.2.1,a.2.2.1,a.2.2.2.1,a.2.2.2.2.1,a.2.2.2.2.2.1,a.2.2.2.2.2.2.1,kg a.2.2.2.2.2.2.2.1,a.2.2.2.2.2.2.2.2)) else (A (qa.mk a.2.2.2.2.1.1 a.2.2.2.2.1.2.1 a.2.2.2.2.1.2.2 a.2.2.2.2.2.1 a.2.2.2.2.2.2.1,b.T_,a.1)).bind fun c=>(if decide (0<=c)=true then if decide (a.2.2.2.2.1.2.1=2)=true then (B (!decide (c=a.2.2.2.2.1.2.2),kg a.2.2.2.2.2.2.2.1,33)).bind fun d=>elim (fun e=>some (inl (e,a.2.2.2.2.1,a.2.2.2.2.2.1,a.2.2.2.2.2.2.1))) (fun e=>some (inr (a.1,a.2.2.2.1,c,a.2.1,a.2.2.1,a.2.2.2.1,a.2.2.2.2.1,a.2.2.2.2.2.1,a.2.2.2.2.2.2.1,kg a.2.2.2.2.2.2.2.1,a.2.2.2.2.2.2.2.2))) d else if decide (a.2.2.2.2.1.2.1=3)=true then (B (!decide (c=a.2.2.2.2.1.2.2),kg a.2.2.2.2.2.2.2.1,33)).bind fun e=>elim (fun i=>some (inl (i,a.2.2.2.2.1,a.2.2.2.2.2.1,a.2.2.2.2.2.2.1))) (fun i=>some (inr (a.1,a.2.2.2.1,c,a.2.1,a.2.2.1,a.2.2.2.1,a.2.2.2.2.1,a.2.2.2.2.2.1,a.2.2.2.2.2.2.1,kg a.2.2.2.2.2.2.2.1,a.2.2.2.2.2.2.2.2))) e else (B (!false,kg a.2.2.2.2.2.2.2.1,33)).bind fun i=>elim (fun j=>some (inl (j,a.2.2.2.2.1,a.2.2.2.2.2.1,a.2.2.2.2.2.2.1))) (fun j=>some (inr (a.1,a.2.2.2.1,c,a.2.1,a.2.2.1,a.2.2.2.1,a.2.2.2.2.1,a.2.2.2.2.2.1,a.2.2.2.2.2.2.1,kg a.2.2.2.2.2.2.2.1,a.2.2.2.2.2.2.2.2))) i else (B (false,kg a.2.2.2.2.2.2.2.1,33)).bind fun j=>elim (fun l=>some (inl (l,a.2.2.2.2.1,a.2.2.2.2.2.1,a.2.2.2.2.2.2.1))) (fun l=>some (inr (a.1,a.2.2.2.1,c,a.2.1,a.2.2.1,a.2.2.2.1,a.2.2.2.2.1,a.2.2.2.2.2.1,a.2.2.2.2.2.2.1,kg a.2.2.2.2.2.2.2.1,a.2.2.2.2.2.2.2.2))) j).bind fun d=>elim (fun e=>some (inr e)) (fun e=>(bif decide (e.2.1=1) then some (e.1,e.2.2.2.1,e.2.2.2.2.1,e.2.2.2.2.2.1,e.2.2.2.2.2.2.1,e.2.2.2.2.2.2.2.1,e.2.2.2.2.2.2.2.2.1,kg e.2.2.2.2.2.2.2.2.2.1,e.2.2.2.2.2.2.2.2.2.2.1,G5 (e.2.2.1+1)) else bif decide (e.2.1=0) then some (e.1,e.2.2.2.1,e.2.2.2.2.1,e.2.2.2.2.2.1,e.2.2.2.2.2.2.1,e.2.2.2.2.2.2.2.1,e.2.2.2.2.2.2.2.2.1,kg e.2.2.2.2.2.2.2.2.2.1,G5 (e.2.2.1+1),e.2.2.2.2.2.2.2.2.2.2.2) else none).bind fun i=>some (inl (i.1,i.2.1,i.2.2.1,i.2.2.2.1,i.2.2.2.2.1,i.2.2.2.2.2.1,i.2.2.2.2.2.2.1,kg i.2.2.2.2.2.2.2.1,i.2.2.2.2.2.2.2.2))) d).bind fun b=>elim (fun c=>some (Step.next (c.1,c.2.1,c.2.2.1,G5 (c.2.2.2.1+1),c.2.2.2.2.1,c.2.2.2.2.2.1,c.2.2.2.2.2.2.1,kg c.2.2.2.2.2.2.2.1,c.2.2.2.2.2.2.2.2))) (fun c=>some (Step.done (inl c))) b else some (Step.done (inr (a.2.2.2.2.1,a.2.2.2.2.2.1,a.2.2.2.2.2.2.1,kg a.2.2.2.2.2.2.2.1,a.2.2.2.2.2.2.2.2)))
def q9b (A:zdy) (B:zdu) (C:zs3) (x:znU):G4 zan:=(lpO (q73 A B C) (x.2.1,x.1.K_,x.1.K_.len,0,x.2.2.1,x.2.2.2.1,x.2.2.2.2,kg x.1,0,0)).bind fun a=>elim (fun b=>some (inl b)) (fun b=>(zd b.2.2.2.1.K_ 0).bind fun c=>(zd b.2.2.2.1.K_ 1).bind fun d=>(C (b.2.2.2.1.T_,b.2.2.2.2.1,b.2.2.2.2.2,c.N_,d.N_)).bind fun e=>(zp 24 b.2.2.1 e.xs).bind fun i=>some (inr (b.1,b.2.1,i))) a
def q42:znU->G4 zan:=q9b q2p q51 q84
theorem qkj:@Eq ((znU)->G4 zan) P66.F q42:=by delta q42;rw [<-qbi,<-qgo,<-ql8];kernel_rfl
def q74 (A:zdD) (B:zbX) (C:zdu) (D:zoc) (E:zdy) (G:tA2) (H:zr3):zny->G4 (Step zny zwF):=fun a=>if decide (a.2.2.2.2.1 < a.2.2.2.1)=true then ((zd a.2.2.1 a.2.2.2.2.1).bind fun b=>(Zu a.2.1 0 a.2.2.2.2.1).bind fun c=>(D (c,b.T_)).bind fun d=>(C (!d,kg b,30)).bind fun e=>elim (fun i=>some (inl i)) (fun i=>(if decide (0 < b.K_.len)=true then (zd b.K_ 0).bind fun j=>(E (qa.mk a.2.2.2.2.2.2.2.2.1.1 a.2.2.2.2.2.2.2.2.1.2.1 a.2.2.2.2.2.2.2.2.1.2.2 a.2.2.2.2.2.2.2.2.2 (Sl.mk [] false),j.T_,a.2.1)).bind fun l=>((zd a.2.2.2.2.2.1.K_ 0).bind fun m=>if decide (m.T_=lit [111,119,110])=true then (C (decide (0<=l),kg b,32)).bind fun n=>elim (fun o=>some (inl o)) (fun o=>some (inr (a.1,a.2.1,l,a.2.2.1,a.2.2.2.1,a.2.2.2.2.1,kg a.2.2.2.2.2.1,a.2.2.2.2.2.2.1,a.2.2.2.2.2.2.2.1,a.2.2.2.2.2.2.2.2.1,kg b,a.2.2.2.2.2.2.2.2.2))) n else (C (false,kg b,32)).bind fun o=>elim (fun p=>some (inl p)) (fun p=>some (inr (a.1,a.2.1,l,a.2.2.1,a.2.2.2.1,a.2.2.2.2.1,kg a.2.2.2.2.2.1,a.2.2.2.2.2.2.1,a.2.2.2.2.2.2.2.1,a.2.2.2.2.2.2.2.2.1,kg b,a.2.2.2.2.2.2.2.2.2))) o).bind fun m=>elim (fun n=>some (inl n)) (fun n=>some (inr (n.1,n.2.1,n.2.2.1,n.2.2.2.1,n.2.2.2.2.1,n.2.2.2.2.2.1,kg n.2.2.2.2.2.2.1,n.2.2.2.2.2.2.2.1,n.2.2.2.2.2.2.2.2.1,n.2.2.2.2.2.2.2.2.2.1,kg n.2.2.2.2.2.2.2.2.2.2.1,n.2.2.2.2.2.2.2.2.2.2.2))) m else some (inr (a.1,a.2.1, -1,a.2.2.1,a.2.2.2.1,a.2.2.2.2.1,kg a.2.2.2.2.2.1,a.2.2.2.2.2.2.1,a.2.2.2.2.2.2.2.1,a.2.2.2.2.2.2.2.2.1,kg b,a.2.2.2.2.2.2.2.2.2))).bind fun j=>elim (fun l=>some (inl l)) (fun l=>(zp 24 l.2.2.2.2.2.2.2.2.2.2.2 [qp.mk l.2.2.2.2.2.2.2.2.2.2.1.T_ l.2.2.1]).bind fun m=>some (inr (l.1,l.2.1,l.2.2.2.1,l.2.2.2.2.1,l.2.2.2.2.2.1,kg l.2.2.2.2.2.2.1,l.2.2.2.2.2.2.2.1,l.2.2.2.2.2.2.2.2.1,l.2.2.2.2.2.2.2.2.2.1,m))) j) e).bind fun b=>elim (fun c=>some (Step.done (inl c))) (fun c=>some (Step.next (c.1,c.2.1,c.2.2.1,c.2.2.2.1,G5 (c.2.2.2.2.1+1),kg c.2.2.2.2.2.1,c.2.2.2.2.2.2))) b else some (Step.done (inr (a.1,a.2.1,kg a.2.2.2.2.2.1,a.2.2.2.2.2.2)))
def q75 (A:zdD) (B:zbX) (C:zdu) (D:zoc) (E:zdy) (G:tA2) (H:zr3):zsm->G4 (Step zsm zsR):=fun a=>if decide (a.2.2.2.1 < a.2.2.1)=true then (zd a.2.1 a.2.2.2.1).bind fun b=>(H (kg b,a.1,a.2.2.2.2.2)).bind fun c=>elim (fun d=>some (Step.done (inl d.1))) (fun d=>some (Step.next (a.1,a.2.1,a.2.2.1,G5 (a.2.2.2.1+1),a.2.2.2.2.1,d))) c else some (Step.done (inr a.2.2.2.2))
def q9c (A:zdD) (B:zbX) (C:zdu) (D:zoc) (E:zdy) (G:tA2) (H:zr3) (x:Gi×q7):G4 zfI:=(A (kg x.2)).bind fun a=>(B (x.1,x.2.T_)).bind fun b=>(C (decide (b < 0),kg x.2,30)).bind fun c=>elim (fun d=>some (inl d)) (fun d=>(C (decide (Sl.len a.1<=8),kg x.2,22)).bind fun e=>elim (fun i=>some (inl i)) (fun i=>(lpO (q74 A B C D E G H) (x.1,a.1,a.1,Sl.len a.1,0,kg x.2,(lit [],0,0),a.2,(x.2.T_,0,0),Sl.mk [] false)).bind fun j=>elim (fun l=>some (inl l)) (fun l=>(zd l.2.2.1.K_ 0).bind fun m=>(G (l.1,kg m,l.2.1,l.2.2.2.2.1,l.2.2.2.2.2.1,l.2.2.2.2.2.2,Sl.mk [] false)).bind fun n=>elim (fun o=>some (inl o.1)) (fun o=>(lpO (q75 A B C D E G H) (l.2.1,l.2.2.2.2.1,Sl.len l.2.2.2.2.1,0,l.2.2.2.1,o)).bind fun p=>elim (fun r=>some (inl r)) (fun r=>some (inr r.2)) p) n) j) e) c
def q4s:Gi×q7->G4 zfI:=q9c q83 q23 q51 q82 q2p q3l q42
theorem qkk:@Eq ((Sl qa×q7)->G4 zfI) P67.F q4s:=by delta q4s;rw [<-ql6,<-q9j,<-qgo,<-ql7,<-qbi,<-qk4,<-qkj];kernel_rfl
def qax (x:zif):G4 Y2:=some (x.1.1,x.1.2,x.2.2.2)
def q6c:zif->G4 Y2:=qax
theorem qjf:@Eq ((zif)->G4 Y2) F68 q6c:=by kernel_rfl
def q9v (x:Y2):G4 Y2:=some x
def q5e:Y2->G4 Y2:=q9v
theorem qhx:@Eq ((Y2)->G4 Y2) F69 q5e:=by kernel_rfl
def qac (A:zsT) (B:zsZ) (C:zs6):zfK->G4 (Step zfK zsY):=fun a=>if decide (a.2.2.1 < a.2.1)=true then (zd a.1 a.2.2.1).bind fun b=>(if decide (b.k_=1)=true then (yM ((A (a.2.2.2.2.2.2,kg b)).bind fun c=>elim (fun d=>some (inl (d,kg a.2.2.2.1,a.2.2.2.2))) (fun d=>(zp 80 a.2.2.2.2.2.2 [qa.mk d.1.1 d.1.2.1 d.1.2.2 d.2.1 d.2.2]).bind fun e=>some (inr (a.1,a.2.1,a.2.2.1,kg a.2.2.2.1,a.2.2.2.2.1,a.2.2.2.2.2.1,e))) c) ((A (a.2.2.2.2.2.2,kg b)).bind fun c=>elim (fun d=>some (inl (d,kg a.2.2.2.1,a.2.2.2.2))) (fun d=>yM ((zp 80 a.2.2.2.2.2.2 [qa.mk d.1.1 d.1.2.1 d.1.2.2 d.2.1 d.2.2]).bind fun e=>some (inr (a.1,a.2.1,a.2.2.1,kg a.2.2.2.1,a.2.2.2.2.1,a.2.2.2.2.2.1,e))) ((zp 80 a.2.2.2.2.2.2 [qa.mk d.1.1 d.1.2.1 d.1.2.2 d.2.1 d.2.2]).bind fun e=>some (inr (a.1,a.2.1,a.2.2.1,kg a.2.2.2.1,a.2.2.2.2.1,a.2.2.2.2.2.1,e)))) c)).bind fun c=>elim (fun d=>some (inl (d.1,kg d.2.1,d.2.2))) (fun d=>some (inr (d.1,d.2.1,d.2.2.1,kg d.2.2.2.1,d.2.2.2.2))) c else some (inr (a.1,a.2.1,a.2.2.1,kg a.2.2.2.1,a.2.2.2.2))).bind fun c=>elim (fun d=>some (Step.done (inl (d.1,kg d.2.1,d.2.2)))) (fun d=>some (Step.next (d.1,d.2.1,G5 (d.2.2.1+1),kg d.2.2.2.1,d.2.2.2.2))) c else some (Step.done (inr (kg a.2.2.2.1,a.2.2.2.2)))
def qbw (A:zsT) (B:zsZ) (C:zs6) (x:q7):G4 Y2:=(lpO (qac A B C) (x.K_,x.K_.len,0,kg x,0,0,Sl.mk [] false)).bind fun a=>elim (fun b=>(B (b.1,b.2.2)).bind fun c=>some (c.1,c.2.1,Sl.mk [] false)) (fun b=>(C (0,0,b.2.2.2)).bind fun c=>some c) a
def q3f:zih:=qbw q4s q6c q5e
theorem qj9:@Eq zih F70 q3f:=by delta q3f;rw [<-qkk,<-qjf,<-qhx];kernel_rfl
def qeb (A:ztl) (B:zbX) (x:vt):G4 (qf×Int):=(A (Sl.mk [lit [],lit [105,110,116],lit [111,119,110],lit [38],lit [38,109,117,116]] true,x.1.T_)).bind fun a=>(if decide (0 < x.1.K_.len)=true then (zd x.1.K_ 0).bind fun b=>(B (x.2,b.T_)).bind fun c=>if decide (c < 0)=true then some (inl (31,qf.mk (lit []) 0 0)) else some (inr (qf.mk (lit []) 0 0,qf.mk (lit []) a c)) else some (inr (qf.mk (lit []) 0 0,qf.mk (lit []) a 0))).bind fun b=>elim (fun c=>some (c.2,c.1)) (fun c=>some (c.2,0)) b
def q8n:vt->G4 (qf×Int):=qeb q2e q23
theorem qlk:@Eq ((vt)->G4 (qf×Int)) P71.F q8n:=by delta q8n;rw [<-qai,<-q9j];kernel_rfl
def qg5 (x:qf×qf):G4 wY:=some (decide (x.1.n_=x.2.n_),x.2)
def q8q:qf×qf->G4 wY:=qg5
theorem qle:@Eq ((qf×qf)->G4 wY) P72.F q8q:=by kernel_rfl
def q9d (A:zim):zdH->G4 (Step zdH zik):=fun a=>if decide (a.2.1 < a.1)=true then (zd a.2.2.1 a.2.1).bind fun b=>(zd a.2.2.1 a.2.1).bind fun c=>(A (c,a.2.2.2)).bind fun d=>if d.1=true then some (Step.done (inl (a.2.1,a.2.2.1,d.2))) else some (Step.next (a.1,G5 (a.2.1+1),a.2.2.1,d.2)) else some (Step.done (inr a.2.2))
def qbr (A:zim) (x:x4):G4 WI:=(lpO (q9d A) (Sl.len x.1,0,x)).bind fun a=>elim (fun b=>some b) (fun b=>some (-1,b)) a
def qa5:x4->G4 WI:=qbr q8q
theorem qkl:@Eq ((x4)->G4 WI) P73.F qa5:=by delta qa5;rw [<-qle];kernel_rfl
def qay (A:ztj) (x:x4):G4 V6:=(A x).bind fun a=>some (decide (0<=a.1),a.2)
def q43:x4->G4 V6:=qay qa5
theorem qjg:@Eq ((x4)->G4 V6) P74.F q43:=by delta q43;rw [<-qkl];kernel_rfl
def qbx (x:zdL):Gl:=(if decide (1 < x.1.M_)=true then (zd x.2 x.1.t_).bind fun a=>some (decide (a.s_≠0)) else some false).bind fun a=>some a
def q62:zdL->Gl:=qbx
theorem ql9:@Eq ((zdL)->G4 Bool) P75.F q62:=by kernel_rfl
def qcz (x:qf×qf):G4 wY:=(if decide (1 < x.1.M_)=true then some (decide (x.1.t_=x.2.t_),x.2) else some (false,x.2)).bind fun a=>some a
def q76:qf×qf->G4 wY:=qcz
theorem qlf:@Eq ((qf×qf)->G4 wY) P76.F q76:=by kernel_rfl
def q9e (A:zim):zdH->G4 (Step zdH zik):=fun a=>if decide (a.2.1 < a.1)=true then (zd a.2.2.1 a.2.1).bind fun b=>(zd a.2.2.1 a.2.1).bind fun c=>(A (c,a.2.2.2)).bind fun d=>if d.1=true then some (Step.done (inl (a.2.1,a.2.2.1,d.2))) else some (Step.next (a.1,G5 (a.2.1+1),a.2.2.1,d.2)) else some (Step.done (inr a.2.2))
def qbs (A:zim) (x:x4):G4 WI:=(lpO (q9e A) (Sl.len x.1,0,x)).bind fun a=>elim (fun b=>some b) (fun b=>some (-1,b)) a
def qa6:x4->G4 WI:=qbs q76
theorem qkm:@Eq ((x4)->G4 WI) P77.F qa6:=by delta qa6;rw [<-qlf];kernel_rfl
def qaz (A:ztj) (x:x4):G4 V6:=(A x).bind fun a=>some (decide (0<=a.1),a.2)
def q44:x4->G4 V6:=qaz qa6
theorem qjh:@Eq ((x4)->G4 V6) P78.F q44:=by delta q44;rw [<-qkm];kernel_rfl
def qbc (A:ztp) (B:zh8) (C:zdL->Gl) (D:zh8):zsd->G4 (Step zsd zwo):=fun a=>if decide (a.2.2.2.2.1 < a.2.2.2.1)=true then (zd a.2.2.1 a.2.2.2.2.1).bind fun b=>(zd b.K_ 0).bind fun c=>(A (kg c,a.1)).bind fun d=>(B (a.2.2.2.2.2.2.2.2,qf.mk b.T_ d.1.M_ d.1.t_)).bind fun e=>(if e.1=true then some (inl (b.a_,30,lit [],lit [],0,0)) else (if decide (d.2≠0)=true then (zd b.K_ 0).bind fun i=>some (inl (i.a_,d.2,lit [],lit [],0,0)) else ((C (e.2.2,a.1)).bind fun j=>if j=true then (D e.2).bind fun l=>some (a.1,a.2.1,a.2.2.1,a.2.2.2.1,a.2.2.2.2.1,l.1,kg a.2.2.2.2.2.1,a.2.2.2.2.2.2.1,a.2.2.2.2.2.2.2.1,kg b,l.2.2,l.2.1) else some (a.1,a.2.1,a.2.2.1,a.2.2.2.1,a.2.2.2.2.1,false,kg a.2.2.2.2.2.1,a.2.2.2.2.2.2.1,a.2.2.2.2.2.2.2.1,kg b,e.2.2,e.2.1)).bind fun j=>if j.2.2.2.2.2.1=true then (zd j.2.2.2.2.2.2.2.2.2.1.K_ 0).bind fun l=>some (inl (l.a_,34,lit [],lit [],0,0)) else some (inr (j.1,j.2.1,j.2.2.1,j.2.2.2.1,j.2.2.2.2.1,kg j.2.2.2.2.2.2.1,j.2.2.2.2.2.2.2.1,j.2.2.2.2.2.2.2.2.1,j.2.2.2.2.2.2.2.2.2.2))).bind fun i=>elim (fun j=>some (inl j)) (fun j=>some (inr (j.1,j.2.1,j.2.2.1,j.2.2.2.1,j.2.2.2.2.1,kg j.2.2.2.2.2.1,j.2.2.2.2.2.2))) i).bind fun i=>elim (fun j=>some (Step.done (inl j))) (fun j=>(zp 32 j.2.2.2.2.2.2.2.2.2 [j.2.2.2.2.2.2.2.2.1]).bind fun l=>some (Step.next (j.1,j.2.1,j.2.2.1,j.2.2.2.1,G5 (j.2.2.2.2.1+1),kg j.2.2.2.2.2.1,j.2.2.2.2.2.2.1,j.2.2.2.2.2.2.2.1,l))) i else some (Step.done (inr (a.1,a.2.1,kg a.2.2.2.2.2.1,a.2.2.2.2.2.2)))
def qfn (A:ztp) (B:zh8) (C:zdL->Gl) (D:zh8) (x:vt):G4 ziE:=if decide (8 < G5 (x.1.K_.len - 2))=true then some (qd.mk (lit []) (Sl.mk [] false) (qf.mk (lit []) 0 0),x.1.a_,22) else (Zu x.1.K_ 0 (G5 (x.1.K_.len - 2))).bind fun a=>(lpO (qbc A B C D) (x.2,G5 (x.1.K_.len - 2),a,a.len,0,kg x.1,(lit [],lit [],0,0),(x.1.T_,lit [],0,0),Sl.mk [] false)).bind fun b=>elim (fun c=>some (qd.mk c.2.2.1 (Sl.mk [] false) (qf.mk c.2.2.2.1 c.2.2.2.2.1 c.2.2.2.2.2),c.1,c.2.1)) (fun c=>(zd c.2.2.1.K_ c.2.1).bind fun d=>(A (kg d,c.1)).bind fun e=>if decide (e.2≠0)=true then (zd c.2.2.1.K_ c.2.1).bind fun i=>some (qd.mk (lit []) (Sl.mk [] false) (qf.mk (lit []) 0 0),i.a_,e.2) else some (qd.mk c.2.2.2.2.1.1 c.2.2.2.2.2 e.1,0,0)) b
def q9f:vt->G4 ziE:=qfn q8n q43 q62 q44
theorem qlp:@Eq ((vt)->G4 ziE) P79.F q9f:=by delta q9f;rw [<-qlk,<-qjg,<-ql9,<-qjh];kernel_rfl
def qad (A:ztm):zie->G4 (Step zie (zY⊕Sl qd)):=fun a=>if decide (a.2.2.2.1 < a.2.2.1)=true then ((zd a.2.1 a.2.2.2.1).bind fun b=>if decide (b.k_≠6)=true then some (inl a) else (A (kg b,a.1)).bind fun c=>if decide (c.2.2≠0)=true then some (inr c.2) else (zp 72 a.2.2.2.2 [c.1]).bind fun d=>some (inl (a.1,a.2.1,a.2.2.1,a.2.2.2.1,d))).bind fun b=>elim (fun c=>some (Step.next (c.1,c.2.1,c.2.2.1,G5 (c.2.2.2.1+1),c.2.2.2.2))) (fun c=>some (Step.done (inl c))) b else some (Step.done (inr a.2.2.2.2))
def qec (A:ztm) (x:vt):G4 zix:=(lpO (qad A) (x.2,x.1.K_,x.1.K_.len,0,Sl.mk [] false)).bind fun a=>elim (fun b=>some (b.1,b.2,Sl.mk [] false)) (fun b=>some (0,0,b)) a
def q3y:vt->G4 zix:=qec q9f
theorem qku:@Eq ((vt)->G4 zix) P80.F q3y:=by delta q3y;rw [<-qlp];kernel_rfl
def qc5 (x:Int):Gl:=(if decide (97<=x)=true then if decide (x<=122)=true then some true else some (decide (x=95)) else some (decide (x=95))).bind fun a=>some a
def q2h:Zg:=qc5
theorem qh7:@Eq Zg P81.F q2h:=by kernel_rfl
def qch (x:Int):Gl:=(if decide (48<=x)=true then some (decide (x<=57)) else some false).bind fun a=>some a
def q3g:Zg:=qch
theorem qhy:@Eq Zg P82.F q3g:=by kernel_rfl
def qci (x:Zr):Gl:=(if decide (x=lit [116,121,112,101])=true then some (decide (x=lit [116,121,112,101])) else (if decide (x=lit [102,110])=true then some (decide (x=lit [102,110])) else (if decide (x=lit [111,119,110])=true then some (decide (x=lit [111,119,110])) else (if decide (x=lit [99,101,108,108])=true then some (decide (x=lit [99,101,108,108])) else (if decide (x=lit [99,111,117,110,116,101,100])=true then some (decide (x=lit [99,111,117,110,116,101,100])) else (if decide (x=lit [108,111,99,107])=true then some (decide (x=lit [108,111,99,107])) else (if decide (x=lit [103,117,97,114,100])=true then some (decide (x=lit [103,117,97,114,100])) else (if decide (x=lit [119,104,101,114,101])=true then some (decide (x=lit [119,104,101,114,101])) else (if decide (x=lit [105,110,116])=true then some (decide (x=lit [105,110,116])) else (if decide (x=lit [109,117,116])=true then some (decide (x=lit [109,117,116])) else (if decide (x=lit [102,114,101,101])=true then some (decide (x=lit [102,114,101,101])) else (if decide (x=lit [117,110,108,111,99,107])=true then some (decide (x=lit [117,110,108,111,99,107])) else (if decide (x=lit [105,102])=true then some (decide (x=lit [105,102])) else (if decide (x=lit [101,108,115,101])=true then some (decide (x=lit [101,108,115,101])) else (if decide (x=lit [119,104,105,108,101])=true then some (decide (x=lit [119,104,105,108,101])) else (if decide (x=lit [114,101,116,117,114,110])=true then some (decide (x=lit [114,101,116,117,114,110])) else (if decide (x=lit [97,98,111,114,116])=true then some (decide (x=lit [97,98,111,114,116])) else (if decide (x=lit [102,111,114,107])=true then some (decide (x=lit [102,111,114,107])) else (if decide (x=lit [110,101,119])=true then some (decide (x=lit [110,101,119])) else some (decide (x=lit [97,114,114,97,121]))).bind fun a=>some a).bind fun a=>some a).bind fun a=>some a).bind fun a=>some a).bind fun a=>some a).bind fun a=>some a).bind fun a=>some a).bind fun a=>some a).bind fun a=>some a).bind fun a=>some a).bind fun a=>some a).bind fun a=>some a).bind fun a=>some a).bind fun a=>some a).bind fun a=>some a).bind fun a=>some a).bind fun a=>some a).bind fun a=>some a).bind fun a=>if a=true then some true else some false
def q2z:WG:=qci
theorem qhz:@Eq WG P83.F q2z:=by kernel_rfl
def qa9 (x:z8):Gc:=(if decide (G5 (x.2+1) < (↑(ByteArray.size x.1):Int))=true then (Zz x.1 x.2 (G5 (x.2+2))).bind fun a=>some (x.1,x.2,a) else some (x.1,x.2,lit [])).bind fun a=>(if decide (a.2.2=lit [45,62])=true then some (a.1,a.2.1,true) else if decide (a.2.2=lit [60,61])=true then some (a.1,a.2.1,true) else some (a.1,a.2.1,decide (a.2.2=lit [61,61]))).bind fun b=>if b.2.2=true then some 2 else (Zc b.1 b.2.1).bind fun c=>(if decide (c=123)=true then some (decide (c=123)) else (if decide (c=125)=true then some (decide (c=125)) else (if decide (c=40)=true then some (decide (c=40)) else (if decide (c=41)=true then some (decide (c=41)) else (if decide (c=91)=true then some (decide (c=91)) else (if decide (c=93)=true then some (decide (c=93)) else (if decide (c=44)=true then some (decide (c=44)) else (if decide (c=58)=true then some (decide (c=58)) else (if decide (c=59)=true then some (decide (c=59)) else (if decide (c=61)=true then some (decide (c=61)) else (if decide (c=43)=true then some (decide (c=43)) else (if decide (c=45)=true then some (decide (c=45)) else (if decide (c=38)=true then some (decide (c=38)) else some (decide (c=60))).bind fun d=>some d).bind fun d=>some d).bind fun d=>some d).bind fun d=>some d).bind fun d=>some d).bind fun d=>some d).bind fun d=>some d).bind fun d=>some d).bind fun d=>some d).bind fun d=>some d).bind fun d=>some d).bind fun d=>some d).bind fun d=>if d=true then some 1 else some 0
def q37:z8->Gc:=qa9
theorem qiq:@Eq ((z8)->G4 Int) P84.F q37:=by kernel_rfl
def q5p (A:Zg) (B:Zg) (C:WG) (D:wW):zfN->G4 (Step zfN zfN):=fun a=>if decide (a.2.2.1 < (↑(ByteArray.size a.1):Int))=true then (Zc a.1 a.2.2.1).bind fun b=>(A b).bind fun c=>(Zc a.1 a.2.2.1).bind fun d=>(B d).bind fun e=>(if (!c)=true then some (a.1,a.2.1,a.2.2.1, !e,a.2.2.2) else some (a.1,a.2.1,a.2.2.1,false,a.2.2.2)).bind fun i=>if i.2.2.2.1=true then some (Step.done (i.1,i.2.1,i.2.2.1,i.2.2.2.2)) else some (Step.next (i.1,i.2.1,G5 (i.2.2.1+1),i.2.2.2.2)) else some (Step.done a)
def q5q (A:Zg) (B:Zg) (C:WG) (D:wW):VX->G4 (Step VX VX):=fun a=>if decide (a.2.2.1 < (↑(ByteArray.size a.1):Int))=true then (Zc a.1 a.2.2.1).bind fun b=>(B b).bind fun c=>if (!c)=true then some (Step.done a) else (if decide (a.2.2.2.1<=1099511627776)=true then (Zc a.1 a.2.2.1).bind fun d=>some (a.1,a.2.1,a.2.2.1,G5 (G5 (a.2.2.2.1 * 10)+G5 (IntKind.u8.wrap (d - 48))),a.2.2.2.2) else some a).bind fun d=>(if decide (1099511627776 < d.2.2.2.1)=true then some (d.1,d.2.1,d.2.2.1,d.2.2.2.1,true,d.2.2.2.2.2) else some d).bind fun e=>some (Step.next (e.1,e.2.1,G5 (e.2.2.1+1),e.2.2.2)) else some (Step.done a)
def qao (A:Zg) (B:Zg) (C:WG) (D:wW) (x:z8):G4 (q9×Int):=(Zc x.1 x.2).bind fun a=>(A a).bind fun b=>(Zc x.1 x.2).bind fun c=>(B c).bind fun d=>(if b=true then (lpO (q5p A B C D) (x.1,x.2,x.2,q9.mk 0 (lit []) 0 0,q9.mk 0 (lit []) 0 x.2)).bind fun e=>(Zz e.1 e.2.1 e.2.2.1).bind fun i=>if decide (16 < (↑i.size:Int))=true then some (inl (13,q9.mk 0 (lit []) 0 0)) else (C i).bind fun j=>(if j=true then some (e.2.2.2.1,q9.mk 2 i e.2.2.2.2.N_ e.2.2.2.2.a_) else some (e.2.2.2.1,q9.mk 1 i e.2.2.2.2.N_ e.2.2.2.2.a_)).bind fun l=>some (inl (0,l.2)) else some (inr (x.1,x.2,x.2,d,q9.mk 0 (lit []) 0 0,q9.mk 0 (lit []) 0 x.2))).bind fun e=>elim (fun i=>some (i.2,i.1)) (fun i=>(if i.2.2.2.1=true then (lpO (q5q A B C D) (i.1,i.2.1,i.2.2.1,0,false,i.2.2.2.2)).bind fun j=>(if decide (j.2.2.1 < (↑(ByteArray.size j.1):Int))=true then (Zc j.1 j.2.2.1).bind fun l=>(A l).bind fun m=>some (j.1,j.2.1,j.2.2.1,j.2.2.2.1,j.2.2.2.2.1,m,j.2.2.2.2.2) else some (j.1,j.2.1,j.2.2.1,j.2.2.2.1,j.2.2.2.2.1,false,j.2.2.2.2.2)).bind fun l=>(if l.2.2.2.2.1=true then some (l.1,l.2.1,l.2.2.1,l.2.2.2.1,true,l.2.2.2.2.2.2) else if l.2.2.2.2.2.1=true then some (l.1,l.2.1,l.2.2.1,l.2.2.2.1,true,l.2.2.2.2.2.2) else (Zc l.1 l.2.1).bind fun m=>if decide (m=48)=true then some (l.1,l.2.1,l.2.2.1,l.2.2.2.1,decide (G5 (l.2.1+1) < l.2.2.1),l.2.2.2.2.2.2) else some (l.1,l.2.1,l.2.2.1,l.2.2.2.1,false,l.2.2.2.2.2.2)).bind fun m=>if m.2.2.2.2.1=true then some (inl (12,q9.mk 0 (lit []) 0 0)) else (Zz m.1 m.2.1 m.2.2.1).bind fun n=>some (inl (0,q9.mk 3 n m.2.2.2.1 m.2.2.2.2.2.2.a_)) else some (inr (i.1,i.2.1,i.2.2.2.2))).bind fun j=>elim (fun l=>some (l.2,l.1)) (fun l=>(D (l.1,l.2.1)).bind fun m=>if decide (m=0)=true then some (q9.mk 0 (lit []) 0 0,11) else (Zz l.1 l.2.1 (G5 (l.2.1+m))).bind fun n=>some (q9.mk 4 n l.2.2.2.N_ l.2.2.2.a_,0)) j) e
def q4u:z8->G4 (q9×Int):=qao q2h q3g q2z q37
theorem qji:@Eq ((z8)->G4 (q9×Int)) P85.F q4u:=by delta q4u;rw [<-qh7,<-qhy,<-qhz,<-qiq];kernel_rfl
def q64 (A:zoa):vo->G4 (Step vo vo):=fun a=>(if decide (a.2.1 < (↑(ByteArray.size a.1):Int))=true then (Zc a.1 a.2.1).bind fun b=>some (a.1,a.2.1,decide (b≠10),a.2.2) else some (a.1,a.2.1,false,a.2.2)).bind fun b=>if b.2.2.1=true then some (Step.next (b.1,G5 (b.2.1+1),b.2.2.2)) else some (Step.done (b.1,b.2.1,b.2.2.2))
def q65 (A:zoa):vo->G4 (Step vo zts):=fun a=>if decide (a.2.1 < (↑(ByteArray.size a.1):Int))=true then (((Zc a.1 a.2.1).bind fun b=>if decide (b=32)=true then some (a.1,a.2.1,true,a.2.2) else (Zc a.1 a.2.1).bind fun c=>some (a.1,a.2.1,decide (c=10),a.2.2)).bind fun b=>if b.2.2.1=true then some (inl (b.1,G5 (b.2.1+1),b.2.2.2)) else (Zc b.1 b.2.1).bind fun c=>if decide (c=35)=true then (lpO (q64 A) (b.1,b.2.1,b.2.2.2)).bind fun d=>some (inl d) else (A (b.1,b.2.1)).bind fun e=>if decide (e.2≠0)=true then some (inr (b.2.1,e.2)) else (zp 40 b.2.2.2 [e.1]).bind fun i=>some (inl (b.1,G5 (b.2.1+(↑e.1.T_.size:Int)),i))).bind fun b=>elim (fun c=>some (Step.next c)) (fun c=>some (Step.done (inl c))) b else some (Step.done (inr (a.1,a.2.2)))
def q91 (A:zoa) (x:Zr):G4 (Int×Int×Gt):=if decide (16384 < (↑x.size:Int))=true then some (0,10,Sl.mk [] false) else (lpO (q65 A) (x,0,Sl.mk [] false)).bind fun a=>elim (fun b=>some (b.1,b.2,Sl.mk [] false)) (fun b=>(zp 40 b.2 [q9.mk 0 (lit []) 0 (↑(ByteArray.size b.1):Int)]).bind fun c=>some (0,0,c)) a
def q50:zia:=q91 q4u
theorem qh8:@Eq zia P86.F q50:=by delta q50;rw [<-qji];kernel_rfl
def q8w (x:YZ):G4 zS:=(zd x.2.2 x.2.1.1).bind fun a=>(zd x.2.2 x.2.1.1).bind fun b=>(if decide (x.2.1.2.2.1=0)=true then if decide (b.k_=2)=true then (zd x.2.2 x.2.1.1).bind fun c=>(zd x.2.2 x.2.1.1).bind fun d=>some (decide (d.T_=x.1),x.2) else if decide (b.k_=4)=true then (zd x.2.2 x.2.1.1).bind fun e=>(zd x.2.2 x.2.1.1).bind fun i=>some (decide (i.T_=x.1),x.2) else some (false,x.2) else some (false,x.2)).bind fun c=>some c
def q1i:YZ->G4 zS:=q8w
theorem q5o:@Eq ((YZ)->G4 zS) P87.F q1i:=by kernel_rfl
def q8a (A:Z5) (x:YZ):G4 zS:=(A x).bind fun a=>(if a.1=true then some (a.1,(G5 (a.2.1.1+1),a.2.1.2),a.2.2) else some a).bind fun b=>some b
def qu:YZ->G4 zS:=q8a q1i
theorem q1j:@Eq ((YZ)->G4 zS) P88.F qu:=by delta qu;rw [<-q5o];kernel_rfl
def q7c (x:yV):G4 zB:=(if decide (x.2.1.2.2.1=0)=true then (zd x.2.2 x.2.1.1).bind fun a=>(zd x.2.2 x.2.1.1).bind fun b=>some ((x.2.1.1,x.2.1.2.1,x.1,b.a_),x.2.2) else some x.2).bind fun a=>some a
def q15:yV->G4 zB:=q7c
theorem q3t:@Eq ((yV)->G4 zB) P89.F q15:=by kernel_rfl
def q7e (A:wU) (x:zB):G4 yU:=(zd x.2 x.1.1).bind fun a=>(zd x.2 x.1.1).bind fun b=>(if decide (x.1.2.2.1≠0)=true then some (true,x.1,x.2,(0,lit [],0,0),b) else some (decide (b.k_≠1),x.1,x.2,(0,lit [],0,0),b)).bind fun (c:Bool×(Int×Int×Int×Int)×Sl q9×(Int×G1×Int×Int)×q9)=>if c.1=true then (A (20,c.2.1,c.2.2.1)).bind fun d=>some ((0,lit [],0,0),d) else some ((5,c.2.2.2.2.T_,0,c.2.2.2.2.a_),(G5 (c.2.1.1+1),c.2.1.2),c.2.2.1)
def q11:zB->G4 yU:=q7e q15
theorem q2v:@Eq ((zB)->G4 yU) P90.F q11:=by delta q11;rw [<-q3t];kernel_rfl
def q7d (A:Z5) (B:wU) (x:YZ):G4 zB:=(A x).bind fun a=>(if (!a.1)=true then (B (20,a.2)).bind fun b=>some b else some a.2).bind fun b=>some b
def qy:YZ->G4 zB:=q7d qu q15
theorem q2k:@Eq ((YZ)->G4 zB) P91.F qy:=by delta qy;rw [<-q1j,<-q3t];kernel_rfl
def q7i (A:Z5) (B:XH) (C:Wv) (x:zB):G4 Zp:=(zd x.2 x.1.1).bind fun a=>(zd x.2 x.1.1).bind fun b=>(zd x.2 x.1.1).bind fun c=>(zd x.2 x.1.1).bind fun d=>(A (lit [105,110,116],x)).bind fun e=>if e.1=true then some (q6.mk 8 b.T_ 0 d.a_ (Sl.mk [] false),e.2) else (A (lit [111,119,110],e.2)).bind fun i=>(if (!i.1)=true then (B (lit [38],i.2)).bind fun j=>(A (lit [109,117,116],j)).bind fun l=>(if l.1=true then some (l.2.1,l.2.2,(0,lit [],0,0),8,lit [38,109,117,116],0,d.a_) else some (l.2.1,l.2.2,(0,lit [],0,0),8,b.T_,0,d.a_)).bind fun (m:zky)=>some m else some (i.2.1,i.2.2,(0,lit [],0,0),8,b.T_,0,d.a_)).bind fun (j:zky)=>(C (j.1,j.2.1)).bind fun l=>some (q6.mk j.2.2.2.1 j.2.2.2.2.1 j.2.2.2.2.2.1 j.2.2.2.2.2.2 (Sl.mk [q6.mk l.1.1 l.1.2.1 l.1.2.2.1 l.1.2.2.2 (Sl.mk [] false)] true),l.2)
def q2s:zB->G4 Zp:=q7i qu qy q11
theorem qir:@Eq ((zB)->G4 Zp) P92.F q2s:=by delta q2s;rw [<-q1j,<-q2k,<-q2v];kernel_rfl
def q66 (A:wU) (x:zB):G4 yV:=(zd x.2 x.1.1).bind fun a=>(zd x.2 x.1.1).bind fun b=>(if decide (x.1.2.2.1≠0)=true then some (true,x.1,x.2,b) else some (decide (b.k_≠3),x.1,x.2,b)).bind fun c=>if c.1=true then (A (20,c.2.1,c.2.2.1)).bind fun d=>some (0,d) else some (c.2.2.2.N_,(G5 (c.2.1.1+1),c.2.1.2),c.2.2.1)
def q25:zB->G4 yV:=q66 q15
theorem q6t:@Eq ((zB)->G4 yV) P93.F q25:=by delta q25;rw [<-q3t];kernel_rfl
def q7f (A:Z5) (B:zhT) (x:Zp):G4 Zp:=(A (lit [43],x.2)).bind fun a=>if a.1=true then (B a.2).bind fun b=>some (q6.mk x.1.k_ x.1.T_ b.1 x.1.a_ x.1.K_,b.2) else (A (lit [45],a.2)).bind fun c=>(if c.1=true then (B c.2).bind fun d=>some (d.2.1,d.2.2,q6.mk x.1.k_ x.1.T_ (G5 (0 - d.1)) x.1.a_ x.1.K_,0,lit [],0,0) else some (c.2.1,c.2.2,kr x.1,0,lit [],0,0)).bind fun (d:(Int×Int×Int×Int)×Sl q9×q6×Int×G1×Int×Int)=>some (kr d.2.2.1,d.1,d.2.1)
def q1x:Zp->G4 Zp:=q7f qu q25
theorem qel:@Eq ((Zp)->G4 Zp) P94.F q1x:=by delta q1x;rw [<-q1j,<-q6t];kernel_rfl
def q7g (A:zhT) (B:Z5) (C:Wv) (D:zwK) (x:zB):G4 Zp:=(zd x.2 x.1.1).bind fun a=>(zd x.2 x.1.1).bind fun b=>(zd x.2 x.1.1).bind fun c=>(zd x.2 x.1.1).bind fun d=>if decide (d.k_=3)=true then (A x).bind fun e=>some (q6.mk 5 (lit []) e.1 b.a_ (Sl.mk [] false),e.2) else (B (lit [45],x)).bind fun i=>if i.1=true then (A i.2).bind fun j=>some (q6.mk 5 (lit []) (G5 (0 - j.1)) b.a_ (Sl.mk [] false),j.2) else (C i.2).bind fun l=>(D (q6.mk l.1.1 l.1.2.1 l.1.2.2.1 l.1.2.2.2 (Sl.mk [] false),l.2)).bind fun m=>some (kr m.1,m.2)
def q1l:zB->G4 Zp:=q7g q25 qu q11 q1x
theorem q5x:@Eq ((zB)->G4 Zp) P95.F q1l:=by delta q1l;rw [<-q6t,<-q1j,<-q2v,<-qel];kernel_rfl
def q5s (A:Z5) (B:wU):znV->G4 (Step znV zsS):=fun a=>if decide (a.1 < Sl.len a.2.2.2)=true then (zd a.2.2.2 a.1).bind fun b=>(zd a.2.2.2 a.1).bind fun c=>(A (c,a.2.1,a.2.2.1)).bind fun d=>if d.1=true then (zd a.2.2.2 a.1).bind fun e=>(zd a.2.2.2 a.1).bind fun i=>some (Step.done (inl (i,d.2))) else some (Step.next (G5 (a.1+1),d.2.1,d.2.2,a.2.2.2)) else some (Step.done (inr (a.2.1,a.2.2.1)))
def q8b (A:Z5) (B:wU) (x:zB):G4 YZ:=(lpO (q5s A B) (0,x.1,x.2,Sl.mk [lit [60],lit [60,61],lit [61,61]] true)).bind fun a=>elim (fun b=>some b) (fun b=>(B (20,b)).bind fun c=>some (lit [],c)) a
def q4v:zB->G4 YZ:=q8b qu q15
theorem qjj:@Eq ((zB)->G4 YZ) P96.F q4v:=by delta q4v;rw [<-q1j,<-q3t];kernel_rfl
def q59 (A:XW) (B:zB->G4 YZ) (x:zB):G4 Zy:=(A x).bind fun a=>(B a.2).bind fun b=>(A b.2).bind fun c=>some ((4,b.1,0,a.1.a_),c.2.1,c.2.2,Sl.mk [kr a.1,kr c.1] true)
def q1m:Yj:=q59 q1l q4v
theorem qem:@Eq Yj P97.F q1m:=by delta q1m;rw [<-q5x,<-qjj];kernel_rfl
def q45 (A:XH) (B:Z5) (C:XW):zn4->G4 (Step zn4 V0):=fun a=>(B (lit [44],a.1,a.2.1)).bind fun b=>if (!b.1)=true then some (Step.done (b.2.1,b.2.2,a.2.2.2)) else (C b.2).bind fun c=>(zp 64 a.2.2.2 [kr c.1]).bind fun d=>some (Step.next (c.2.1,c.2.2,kr c.1,d))
def q7h (A:XH) (B:Z5) (C:XW) (x:zB):G4 V0:=(A (lit [40],x)).bind fun a=>(B (lit [41],a)).bind fun b=>(if b.1=true then some (true,b.2) else some (decide (b.2.1.2.2.1≠0),b.2)).bind fun c=>if c.1=true then some (c.2.1,c.2.2,Sl.mk [] false) else (C c.2).bind fun d=>(lpO (q45 A B C) (d.2.1,d.2.2,kr d.1,Sl.mk [kr d.1] true)).bind fun e=>(A (lit [41],e.1,e.2.1)).bind fun i=>some (i.1,i.2,e.2.2)
def q2r:zB->G4 V0:=q7h qy qu q1l
theorem qb2:@Eq ((zB)->G4 V0) P98.F q2r:=by delta q2r;rw [<-q2k,<-q1j,<-q5x];kernel_rfl
def q7j (A:Z5) (B:zhT) (C:Wv) (D:XW) (E:Z5) (G:znG) (H:XH) (I:zwK) (x:zB):G4 Zp:=(zd x.2 x.1.1).bind fun a=>(zd x.2 x.1.1).bind fun b=>(A (lit [110,101,119],x)).bind fun c=>if c.1=true then (B c.2).bind fun d=>some (q6.mk 23 (lit []) d.1 b.a_ (Sl.mk [] false),d.2) else (A (lit [97,114,114,97,121],c.2)).bind fun e=>if e.1=true then (C e.2).bind fun i=>some (q6.mk 24 i.1.2.1 0 b.a_ (Sl.mk [] false),i.2) else (A (lit [38],e.2)).bind fun j=>if j.1=true then (A (lit [109,117,116],j.2)).bind fun l=>(if l.1=true then some (l.2.1,l.2.2,(0,lit [],0,0),27,lit [],0,b.a_) else some (l.2.1,l.2.2,(0,lit [],0,0),26,lit [],0,b.a_)).bind fun (m:zky)=>(C (m.1,m.2.1)).bind fun n=>some (q6.mk m.2.2.2.1 n.1.2.1 m.2.2.2.2.2.1 m.2.2.2.2.2.2 (Sl.mk [] false),n.2) else (zd j.2.2 j.2.1.1).bind fun o=>(zd j.2.2 j.2.1.1).bind fun p=>if decide (p.k_≠1)=true then (D j.2).bind fun r=>some (kr r.1,r.2) else (C j.2).bind fun s=>(E (lit [40],s.2)).bind fun t=>if t.1=true then (G t.2).bind fun u=>some (q6.mk 28 s.1.2.1 s.1.2.2.1 s.1.2.2.2 u.2.2,u.1,u.2.1) else (A (lit [91],t.2)).bind fun v=>if v.1=true then (D v.2).bind fun w=>(H (lit [93],w.2)).bind fun z=>some (q6.mk 25 s.1.2.1 s.1.2.2.1 s.1.2.2.2 (Sl.mk [kr w.1] true),z) else (E (lit [43],v.2)).bind fun J=>(E (lit [45],J.2)).bind fun K=>(if J.1=true then (zd K.2.2 (G5 (K.2.1.1+1))).bind fun L=>(zd K.2.2 (G5 (K.2.1.1+1))).bind fun P=>some (K.1,decide (P.k_=1),K.2.1,K.2.2,(0,lit [],0,0),s.1) else if K.1=true then (zd K.2.2 (G5 (K.2.1.1+1))).bind fun Q=>(zd K.2.2 (G5 (K.2.1.1+1))).bind fun R=>some (K.1,decide (R.k_=1),K.2.1,K.2.2,(0,lit [],0,0),s.1) else some (K.1,false,K.2.1,K.2.2,(0,lit [],0,0),s.1)).bind fun (L:Bool×Bool×(Int×Int×Int×Int)×Sl q9×(Int×G1×Int×Int)×Int×G1×Int×Int)=>if L.2.1=true then (C ((G5 (L.2.2.1.1+1),L.2.2.1.2),L.2.2.2.1)).bind fun P=>(if L.1=true then some (P.2.1,P.2.2,L.2.2.2.2.1,(22,lit [],0,L.2.2.2.2.2.2.2.2),Sl.mk [q6.mk L.2.2.2.2.2.1 L.2.2.2.2.2.2.1 L.2.2.2.2.2.2.2.1 L.2.2.2.2.2.2.2.2 (Sl.mk [] false),q6.mk P.1.1 P.1.2.1 P.1.2.2.1 P.1.2.2.2 (Sl.mk [] false)] true) else some (P.2.1,P.2.2,L.2.2.2.2.1,(21,lit [],0,L.2.2.2.2.2.2.2.2),Sl.mk [q6.mk L.2.2.2.2.2.1 L.2.2.2.2.2.2.1 L.2.2.2.2.2.2.2.1 L.2.2.2.2.2.2.2.2 (Sl.mk [] false),q6.mk P.1.1 P.1.2.1 P.1.2.2.1 P.1.2.2.2 (Sl.mk [] false)] true)).bind fun (Q:xl)=>some (q6.mk Q.2.2.2.1.1 Q.2.2.2.1.2.1 Q.2.2.2.1.2.2.1 Q.2.2.2.1.2.2.2 Q.2.2.2.2,Q.1,Q.2.1) else (I (q6.mk L.2.2.2.2.2.1 L.2.2.2.2.2.2.1 L.2.2.2.2.2.2.2.1 L.2.2.2.2.2.2.2.2 (Sl.mk [] false),L.2.2.1,L.2.2.2.1)).bind fun R=>some (kr R.1,R.2)
def q4j:zB->G4 Zp:=q7j qu q25 q11 q1l q1i q2r qy q1x
theorem qis:@Eq ((zB)->G4 Zp) P99.F q4j:=by delta q4j;rw [<-q1j,<-q6t,<-q2v,<-q5x,<-q5o,<-qb2,<-q2k,<-qel];kernel_rfl
def q9o (A:Wv) (B:Z5) (C:znG) (D:Z5) (E:XW) (G:XH) (H:XW) (x:zB):G4 Zy:=(A x).bind fun a=>(B (lit [40],a.2)).bind fun b=>if b.1=true then (C b.2).bind fun c=>some ((20,lit [],0,a.1.2.2.2),c.1,c.2.1,Sl.mk [q6.mk 28 a.1.2.1 a.1.2.2.1 a.1.2.2.2 c.2.2] true) else (D (lit [91],b.2)).bind fun d=>if d.1=true then (E d.2).bind fun e=>(G (lit [93],e.2)).bind fun i=>(G (lit [61],i)).bind fun j=>(E j).bind fun l=>some ((11,a.1.2),l.2.1,l.2.2,Sl.mk [kr e.1,kr l.1] true) else (G (lit [61],d.2)).bind fun m=>(H m).bind fun n=>some ((10,a.1.2),n.2.1,n.2.2,Sl.mk [kr n.1] true)
def q5a:Yj:=q9o q11 q1i q2r qu q1l qy q4j
theorem qi0:@Eq Yj zmP.F q5a:=by delta q5a;rw [<-q2v,<-q5o,<-qb2,<-q1j,<-q5x,<-q2k,<-qis];kernel_rfl
def q3m (A:wT) (B:wT) (x:zdv):G4 Zy:=(A x.2.2).bind fun a=>(B (a.2.1,a.2.2.1)).bind fun b=>(zp 64 a.2.2.2 [q6.mk b.1.1 b.1.2.1 b.1.2.2.1 b.1.2.2.2 b.2.2.2]).bind fun c=>some ((x.1,a.1.2.1,a.1.2.2.1,x.2.1),b.2.1,b.2.2.1,c)
def q1n (h:Yj):zdv->G4 Zy:=q3m q1m h
theorem qc6 (h:Yj):@Eq ((zdv)->G4 Zy) (zhE h) (q1n h):=by delta q1n;rw [<-qem];kernel_rfl
def q5b (A:zdv->G4 Zy) (B:Z5) (C:wT) (D:Wv) (E:XH) (G:zhT) (H:Z5) (I:XW) (J:znG) (K:wT) (x:zB):G4 Zy:=(zd x.2 x.1.1).bind fun a=>(zd x.2 x.1.1).bind fun b=>(zd x.2 x.1.1).bind fun c=>(zd x.2 x.1.1).bind fun d=>(if decide (d.k_=2)=true then (zd x.2 x.1.1).bind fun e=>(zd x.2 x.1.1).bind fun i=>some (b.a_,i.T_,x.1,x.2,0,lit [],0,0) else some (b.a_,lit [],x.1,x.2,0,lit [],0,0)).bind fun (e:Int×G1×(Int×Int×Int×Int)×Sl q9×Int×G1×Int×Int)=>(if decide (e.2.1=lit [105,102])=true then (A (15,e.1,(G5 (e.2.2.1.1+1),e.2.2.1.2),e.2.2.2.1)).bind fun i=>(B (lit [101,108,115,101],i.2.1,i.2.2.1)).bind fun j=>(if j.1=true then (C j.2).bind fun l=>some (l.2.1,l.2.2.1,e.2.2.2.2,i.1,l.1,i.2.2.2,l.2.2.2) else some (j.2.1,j.2.2,e.2.2.2.2,i.1,(9,lit [],0,e.1),i.2.2.2,Sl.mk [] false)).bind fun (l:(Int×Int×Int×Int)×Sl q9×(Int×G1×Int×Int)×(Int×G1×Int×Int)×(Int×G1×Int×Int)×Sl q6×Sl q6)=>(zp 64 l.2.2.2.2.2.1 [q6.mk l.2.2.2.2.1.1 l.2.2.2.2.1.2.1 l.2.2.2.2.1.2.2.1 l.2.2.2.2.1.2.2.2 l.2.2.2.2.2.2]).bind fun m=>some (inl (l.1,l.2.1,l.2.2.2.1,m)) else if decide (e.2.1=lit [119,104,105,108,101])=true then (A (16,e.1,(G5 (e.2.2.1.1+1),e.2.2.1.2),e.2.2.2.1)).bind fun n=>some (inl (n.2.1,n.2.2.1,n.1,n.2.2.2)) else (if decide (e.2.1=lit [102,114,101,101])=true then (D ((G5 (e.2.2.1.1+1),e.2.2.1.2),e.2.2.2.1)).bind fun o=>some (o.2.1,o.2.2,e.2.2.2.2,(12,o.1.2.1,0,e.1),Sl.mk [] false) else (if decide (e.2.1=lit [108,111,99,107])=true then some (e.2.1,e.2.1,decide (e.2.1=lit [108,111,99,107]),e.2.2.1,e.2.2.2.1,e.2.2.2.2,0,lit [],0,e.1) else some (e.2.1,e.2.1,decide (e.2.1=lit [117,110,108,111,99,107]),e.2.2.1,e.2.2.2.1,e.2.2.2.2,0,lit [],0,e.1)).bind fun (p:G1×G1×Bool×(Int×Int×Int×Int)×Sl q9×(Int×G1×Int×Int)×Int×G1×Int×Int)=>(if p.2.2.1=true then (D ((G5 (p.2.2.2.1.1+1),p.2.2.2.1.2),p.2.2.2.2.1)).bind fun r=>(if decide (p.1=lit [117,110,108,111,99,107])=true then some (r.2.1,r.2.2,p.2.2.2.2.2.1,(14,p.2.2.2.2.2.2.2),r.1) else some (r.2.1,r.2.2,p.2.2.2.2.2.1,(13,p.2.2.2.2.2.2.2),r.1)).bind fun (s:(Int×Int×Int×Int)×Sl q9×(Int×G1×Int×Int)×(Int×G1×Int×Int)×Int×G1×Int×Int)=>(E (lit [91],s.1,s.2.1)).bind fun t=>(G t).bind fun u=>(E (lit [93],u.2)).bind fun v=>some (v.1,v.2,s.2.2.1,(s.2.2.2.1.1,s.2.2.2.2.2.1,u.1,s.2.2.2.1.2.2.2),Sl.mk [] false) else (if decide (p.2.1=lit [114,101,116,117,114,110])=true then (H (lit [59],(G5 (p.2.2.2.1.1+1),p.2.2.2.1.2),p.2.2.2.2.1)).bind fun w=>(if (!w.1)=true then (I w.2).bind fun z=>some (z.2.1,z.2.2,p.2.2.2.2.2.1,(17,p.2.2.2.2.2.2.2),Sl.mk [kr z.1] true) else some (w.2.1,w.2.2,p.2.2.2.2.2.1,(17,p.2.2.2.2.2.2.2),Sl.mk [] false)).bind fun (z:xl)=>some z else (if decide (p.2.1=lit [97,98,111,114,116])=true then some ((G5 (p.2.2.2.1.1+1),p.2.2.2.1.2),p.2.2.2.2.1,p.2.2.2.2.2.1,(18,p.2.2.2.2.2.2.2),Sl.mk [] false) else (if decide (p.2.1=lit [102,111,114,107])=true then (D ((G5 (p.2.2.2.1.1+1),p.2.2.2.1.2),p.2.2.2.2.1)).bind fun L=>(J L.2).bind fun P=>some (P.1,P.2.1,p.2.2.2.2.2.1,(19,L.1.2.1,p.2.2.2.2.2.2.2.2),P.2.2) else (K (p.2.2.2.1,p.2.2.2.2.1)).bind fun Q=>some (Q.2.1,Q.2.2.1,p.2.2.2.2.2.1,Q.1,Q.2.2.2)).bind fun (L:xl)=>some L).bind fun (L:xl)=>some L).bind fun (w:xl)=>some w).bind fun (r:xl)=>some r).bind fun (o:xl)=>some (inr o)).bind fun (i:(Int×Int×Int×Int)×Sl q9×(Int×G1×Int×Int)×Sl q6⊕(Int×Int×Int×Int)×Sl q9×(Int×G1×Int×Int)×(Int×G1×Int×Int)×Sl q6)=>elim (fun j=>some (j.2.2.1,j.1,j.2.1,j.2.2.2)) (fun j=>(E (lit [59],j.1,j.2.1)).bind fun l=>some (j.2.2.2.1,l.1,l.2,j.2.2.2.2)) i
def q2n (h:Yj):Yj:=q5b (q1n h) qu h q11 qy q25 q1i q1l q2r q5a
theorem qdm (h:Yj):@Eq Yj (zhF h) (q2n h):=by delta q2n;rw [<-qc6 h,<-q1j,<-q2v,<-q2k,<-q6t,<-q5o,<-q5x,<-qb2,<-qi0];kernel_rfl
def q3b (A:Z5) (B:wU) (C:XH) (D:Z5) (E:wT):xl->G4 (Step xl xl):=fun a=>if decide (a.1.2.2.1=0)=true then (D (lit [125],a.1,a.2.1)).bind fun b=>if b.1=true then some (Step.done (b.2.1,b.2.2,a.2.2)) else (E b.2).bind fun c=>(zp 64 a.2.2.2.2 [q6.mk c.1.1 c.1.2.1 c.1.2.2.1 c.1.2.2.2 c.2.2.2]).bind fun d=>some (Step.next (c.2.1,c.2.2.1,a.2.2.1,a.2.2.2.1,d)) else some (Step.done a)
def q26 (A:Z5) (B:wU) (C:XH) (D:Z5) (E:wT) (x:zB):G4 Zy:=(zd x.2 x.1.1).bind fun a=>(zd x.2 x.1.1).bind fun b=>(A (lit [123],x)).bind fun c=>(if c.1=true then some (decide (8<=c.2.1.2.1),c.2.1,c.2.2,(0,lit [],0,0),9,lit [],0,b.a_) else some (false,c.2.1,c.2.2,(0,lit [],0,0),9,lit [],0,b.a_)).bind fun d=>(if d.1=true then (B (21,d.2.1,d.2.2.1)).bind fun e=>some (e.1,e.2,d.2.2.2) else some d.2).bind fun e=>(C (lit [123],e.1,e.2.1)).bind fun i=>(lpO (q3b A B C D E) ((i.1.1,G5 (i.1.2.1+1),i.1.2.2),i.2,e.2.2.1,e.2.2.2,Sl.mk [] false)).bind fun j=>some (j.2.2.2.1,(j.1.1,G5 (j.1.2.1 - 1),j.1.2.2),j.2.1,j.2.2.2.2)
def q6u (h:Yj):Yj:=q26 q1i q15 qy qu (q2n h)
theorem qh9 (h:Yj):@Eq Yj (zhG h) (q6u h):=by delta q6u;rw [<-q5o,<-q3t,<-q2k,<-q1j,<-qdm h];kernel_rfl
def q3a:Nat->zB->G4 Zy
  |0=>fun _=>none
  |k+1=>q6u (q3a k)
theorem q6v:∀ k,@Eq Yj (zfg k) (q3a k)
  |0=>rfl
  |k+1=>(qh9 (zfg k)).trans (congrArg q6u (q6v k))
def q46:Yj:=q3a 100000
theorem qi1:@Eq Yj zvh q46:=q6v 100000
def q8x (A:Wv) (B:XH) (C:Z5) (D:XW) (E:Z5) (G:wU) (H:wT):Vr->G4 (Step Vr xl):=fun a=>(if (!a.1)=true then some (a.1,decide (a.2.1.2.2.1=0),a.2) else some (a.1,false,a.2)).bind fun (b:Bool×Bool×(Int×Int×Int×Int)×Sl q9×(Int×G1×Int×Int)×(Int×G1×Int×Int)×Sl q6)=>if b.2.1=true then (A (b.2.2.1,b.2.2.2.1)).bind fun c=>(B (lit [58],c.2)).bind fun d=>(D d).bind fun e=>(zp 64 b.2.2.2.2.2.2 [q6.mk 7 c.1.2.1 c.1.2.2.1 c.1.2.2.2 (Sl.mk [kr e.1] true)]).bind fun i=>(C (lit [44],e.2)).bind fun j=>(if (!j.1)=true then (B (lit [41],j.2)).bind fun l=>some (true,l.1,l.2,b.2.2.2.2.1,b.2.2.2.2.2.1,i) else some (b.1,j.2.1,j.2.2,b.2.2.2.2.1,b.2.2.2.2.2.1,i)).bind fun (l:Vr)=>some (Step.next l) else some (Step.done b.2.2)
def qbe (A:Wv) (B:XH) (C:Z5) (D:XW) (E:Z5) (G:wU) (H:wT) (x:yV):G4 Zy:=(A x.2).bind fun a=>(B (lit [40],a.2)).bind fun b=>(C (lit [41],b)).bind fun c=>(lpO (q8x A B C D E G H) (c.1,c.2.1,c.2.2,(0,lit [],0,0),(6,a.1.2.1,a.1.2.2.1,x.1),Sl.mk [] false)).bind fun d=>(zd d.2.1 d.1.1).bind fun e=>(zd d.2.1 d.1.1).bind fun i=>(C (lit [45,62],d.1,d.2.1)).bind fun j=>(if j.1=true then (E (lit [38],j.2)).bind fun l=>(if l.1=true then (G (20,l.2)).bind fun m=>some (m.1,m.2,d.2.2.1,d.2.2.2.1,(8,lit [],0,i.a_),d.2.2.2.2) else some (l.2.1,l.2.2,d.2.2.1,d.2.2.2.1,(8,lit [],0,i.a_),d.2.2.2.2)).bind fun (m:(Int×Int×Int×Int)×Sl q9×(Int×G1×Int×Int)×(Int×G1×Int×Int)×(Int×G1×Int×Int)×Sl q6)=>(D (m.1,m.2.1)).bind fun n=>some (n.2.1,n.2.2,m.2.2.1,m.2.2.2.1,kr n.1,m.2.2.2.2.2) else some (j.2.1,j.2.2,d.2.2.1,d.2.2.2.1,q6.mk 8 (lit []) 0 i.a_ (Sl.mk [] false),d.2.2.2.2)).bind fun (l:(Int×Int×Int×Int)×Sl q9×(Int×G1×Int×Int)×(Int×G1×Int×Int)×q6×Sl q6)=>(H (l.1,l.2.1)).bind fun m=>(zp 64 l.2.2.2.2.2 [kr l.2.2.2.2.1]).bind fun n=>(zp 64 n [q6.mk m.1.1 m.1.2.1 m.1.2.2.1 m.1.2.2.2 m.2.2.2]).bind fun o=>some (l.2.2.2.1,m.2.1,m.2.2.1,o)
def q5c:yV->G4 Zy:=qbe q11 qy qu q2s q1i q15 q46
theorem qk5:@Eq ((yV)->G4 Zy) zqV.F q5c:=by delta q5c;rw [<-q2v,<-q2k,<-q1j,<-qir,<-q5o,<-q3t,<-qi1];kernel_rfl
def q31 (A:Z5) (B:Wv) (C:wU):zsf->G4 (Step zsf tA6):=fun a=>if decide (a.1 < Sl.len a.2.2.2.2.2)=true then (zd a.2.2.2.2.2 a.1).bind fun b=>(zd a.2.2.2.2.2 a.1).bind fun c=>(A (c,a.2.1,a.2.2.1)).bind fun d=>if d.1=true then (B d.2).bind fun e=>some (Step.done (inl (e.2.1,e.2.2,a.2.2.2.2.1,Sl.mk [q6.mk e.1.1 e.1.2.1 e.1.2.2.1 e.1.2.2.2 (Sl.mk [] false)] true))) else some (Step.next (G5 (a.1+1),d.2.1,d.2.2,a.2.2.2)) else some (Step.done (inr (a.2.1,a.2.2.1,a.2.2.2.1,a.2.2.2.2.1)))
def q7k (A:Z5) (B:Wv) (C:wU) (x:zB):G4 Zp:=(zd x.2 x.1.1).bind fun a=>(zd x.2 x.1.1).bind fun b=>(zd x.2 x.1.1).bind fun c=>(zd x.2 x.1.1).bind fun d=>(A (lit [111,119,110],x)).bind fun e=>if e.1=true then some (q6.mk 2 b.T_ 0 d.a_ (Sl.mk [] false),e.2) else (A (lit [99,101,108,108],e.2)).bind fun i=>if i.1=true then some (q6.mk 2 b.T_ 0 d.a_ (Sl.mk [] false),i.2) else (lpO (q31 A B C) (0,i.2.1,i.2.2,(0,lit [],0,0),(2,b.T_,0,d.a_),Sl.mk [lit [99,111,117,110,116,101,100],lit [108,111,99,107],lit [103,117,97,114,100]] true)).bind fun j=>elim (fun l=>some (q6.mk l.2.2.1.1 l.2.2.1.2.1 l.2.2.1.2.2.1 l.2.2.1.2.2.2 l.2.2.2,l.1,l.2.1)) (fun l=>(C (20,l.1,l.2.1)).bind fun m=>some (q6.mk l.2.2.2.1 l.2.2.2.2.1 l.2.2.2.2.2.1 l.2.2.2.2.2.2 (Sl.mk [] false),m)) j
def q38:zB->G4 Zp:=q7k qu q11 q15
theorem qiu:@Eq ((zB)->G4 Zp) zqW.F q38:=by delta q38;rw [<-q1j,<-q2v,<-q3t];kernel_rfl
def q9p (A:Wv) (B:Z5) (C:XH) (x:zB):G4 Zy:=(A x).bind fun a=>(B (lit [91],a.2)).bind fun b=>(if b.1=true then (A b.2).bind fun c=>(C (lit [93],c.2)).bind fun d=>some (d.1,d.2,(0,lit [],0,0),(3,a.1.2),Sl.mk [q6.mk c.1.1 c.1.2.1 c.1.2.2.1 c.1.2.2.2 (Sl.mk [] false)] true) else some (b.2.1,b.2.2,(0,lit [],0,0),(3,a.1.2),Sl.mk [] false)).bind fun (c:xl)=>some (c.2.2.2.1,c.1,c.2.1,c.2.2.2.2)
def q32:Yj:=q9p q11 qu qy
theorem qi2:@Eq Yj zqX.F q32:=by delta q32;rw [<-q2v,<-q1j,<-q2k];kernel_rfl
def qas (A:Wv) (B:XW) (C:Z5) (D:wT) (E:XH) (G:wT):Vr->G4 (Step Vr xl):=fun a=>if a.1=true then (D (a.2.1,a.2.2.1)).bind fun b=>(zp 64 a.2.2.2.2.2 [q6.mk b.1.1 b.1.2.1 b.1.2.2.1 b.1.2.2.2 b.2.2.2]).bind fun c=>(C (lit [44],b.2.1,b.2.2.1)).bind fun d=>(if (!d.1)=true then (E (lit [125],d.2)).bind fun e=>some (d.1,e.1,e.2,a.2.2.2.1,a.2.2.2.2.1,c) else some (d.1,d.2.1,d.2.2,a.2.2.2.1,a.2.2.2.2.1,c)).bind fun e=>some (Step.next e) else some (Step.done a.2)
def qat (A:Wv) (B:XW) (C:Z5) (D:wT) (E:XH) (G:wT):Vr->G4 (Step Vr xl):=fun a=>if a.1=true then (G (a.2.1,a.2.2.1)).bind fun b=>(zp 64 a.2.2.2.2.2 [q6.mk b.1.1 b.1.2.1 b.1.2.2.1 b.1.2.2.2 b.2.2.2]).bind fun c=>(C (lit [44],b.2.1,b.2.2.1)).bind fun d=>some (Step.next (d.1,d.2.1,d.2.2,a.2.2.2.1,a.2.2.2.2.1,c)) else some (Step.done a.2)
def qau (A:Wv) (B:XW) (C:Z5) (D:wT) (E:XH) (G:wT) (x:yV):G4 Zy:=(A x.2).bind fun a=>(B a.2).bind fun b=>(C (lit [123],b.2)).bind fun c=>(lpO (qas A B C D E G) (c.1,c.2.1,c.2.2,(0,lit [],0,0),(1,a.1.2.1,a.1.2.2.1,x.1),Sl.mk [kr b.1] true)).bind fun d=>(C (lit [119,104,101,114,101],d.1,d.2.1)).bind fun e=>(lpO (qat A B C D E G) (e.1,e.2.1,e.2.2,d.2.2)).bind fun i=>(E (lit [59],i.1,i.2.1)).bind fun j=>some (i.2.2.2.1,j.1,j.2,i.2.2.2.2)
def q4w:yV->G4 Zy:=qau q11 q38 qu q32 qy q1m
theorem qjk:@Eq ((yV)->G4 Zy) zqY.F q4w:=by delta q4w;rw [<-q2v,<-qiu,<-q1j,<-qi2,<-q2k,<-qem];kernel_rfl
def q5d (A:XD):Int×Int×q6->G4 (Step (Int×Int×q6) Int):=fun a=>if decide (a.2.1 < a.2.2.K_.len)=true then (zd a.2.2.K_ a.2.1).bind fun b=>(A (kr b)).bind fun c=>some (Step.next (G5 (a.1+c),G5 (a.2.1+1),kr a.2.2)) else some (Step.done a.1)
def q7v (A:XD) (x:q6):Gc:=(lpO (q5d A) (1,0,kr x)).bind fun a=>some a
def q7w (h:XD):XD:=q7v h
theorem qi3 (h:XD):@Eq XD (zhH h) (q7w h):=by kernel_rfl
def q2o:Nat->q6->G4 Int
  |0=>fun _=>none
  |k+1=>q7w (q2o k)
theorem qdn:∀ k,@Eq XD (zfh k) (q2o k)
  |0=>rfl
  |k+1=>(qi3 (zfh k)).trans (congrArg q7w (qdn k))
def q8c:XD:=q2o 100000
theorem qiv:@Eq XD zvk q8c:=qdn 100000
def q6i (A:zia) (B:Z5) (C:znv) (D:XH) (E:znv) (G:XD):zeG->G4 (Step zeG zeG):=fun a=>(if decide (a.2.1.2.2.1=0)=true then (zd a.2.2.2.1 a.2.1.1).bind fun b=>(zd a.2.2.2.1 a.2.1.1).bind fun c=>some (decide (c.k_≠0),a) else some (false,a)).bind fun b=>if b.1=true then ((zd b.2.2.2.2.1 b.2.2.1.1).bind fun c=>(zd b.2.2.2.2.1 b.2.2.1.1).bind fun d=>(B (lit [102,110],b.2.2.1,b.2.2.2.2.1)).bind fun e=>if e.1=true then (C (d.a_,e.2)).bind fun i=>(zp 64 b.2.2.2.2.2 [q6.mk i.1.1 i.1.2.1 i.1.2.2.1 i.1.2.2.2 i.2.2.2]).bind fun j=>some (b.2.1,i.2.1,b.2.2.2.1,i.2.2.1,j) else (D (lit [116,121,112,101],e.2)).bind fun l=>(if decide (l.1.2.2.1=0)=true then (E (d.a_,l)).bind fun m=>(zp 64 b.2.2.2.2.2 [q6.mk m.1.1 m.1.2.1 m.1.2.2.1 m.1.2.2.2 m.2.2.2]).bind fun n=>some (b.2.1,m.2.1,b.2.2.2.1,m.2.2.1,n) else some (b.2.1,l.1,b.2.2.2.1,l.2,b.2.2.2.2.2)).bind fun m=>some m).bind fun c=>some (Step.next c) else some (Step.done b.2)
def q9q (A:zia) (B:Z5) (C:znv) (D:XH) (E:znv) (G:XD) (x:Zr):G4 (q6×zY):=(A x).bind fun a=>if decide (a.2.1≠0)=true then some (q6.mk 0 (lit []) 0 0 (Sl.mk [] false),a.1,a.2.1) else (lpO (q6i A B C D E G) ((0,lit [],0,0),(0,0,0,0),(0,lit [],0,0),a.2.2,Sl.mk [] false)).bind fun b=>if decide (b.2.1.2.2.1≠0)=true then some (q6.mk 0 (lit []) 0 0 (Sl.mk [] false),b.2.1.2.2.2,b.2.1.2.2.1) else (G (q6.mk b.2.2.1.1 b.2.2.1.2.1 b.2.2.1.2.2.1 b.2.2.1.2.2.2 b.2.2.2.2)).bind fun c=>if decide (4096 < c)=true then some (q6.mk 0 (lit []) 0 0 (Sl.mk [] false),0,22) else some (q6.mk b.2.2.1.1 b.2.2.1.2.1 b.2.2.1.2.2.1 b.2.2.1.2.2.2 b.2.2.2.2,0,0)
def q22:zic:=q9q q50 qu q5c qy q4w q8c
theorem qaj:@Eq zic zqZ.F q22:=by delta q22;rw [<-qh8,<-q1j,<-qk5,<-q2k,<-qjk,<-qiv];kernel_rfl
def q5f:zir->G4 (Step zir Ge):=fun a=>if decide (a.2.1 < a.2.2.1.K_.len)=true then (zd a.2.2.1.K_ a.2.1).bind fun b=>(if decide (b.k_=a.1)=true then (zd a.2.2.1.K_ a.2.1).bind fun c=>(zp 64 a.2.2.2 [kr c]).bind fun d=>some (a.1,a.2.1,kr a.2.2.1,d) else some (a.1,a.2.1,kr a.2.2.1,a.2.2.2)).bind fun c=>some (Step.next (c.1,G5 (c.2.1+1),kr c.2.2.1,c.2.2.2)) else some (Step.done a.2.2.2)
def q7l (x:q6×Int):G4 Ge:=(lpO q5f (x.2,0,kr x.1,Sl.mk [] false)).bind fun a=>some a
def q1a:zdF:=q7l
theorem qiw:@Eq ((q6×Int)->G4 (Sl q6)) zmR.F q1a:=by kernel_rfl
def q48:zok->G4 (Step zok zdK):=fun a=>if decide (a.2.2 < Sl.len a.1)=true then (zd a.1 a.2.2).bind fun b=>if decide (b.n_=a.2.1)=true then some (Step.done (inl a.2.2)) else some (Step.next (a.1,a.2.1,G5 (a.2.2+1))) else some (Step.done (inr ()))
def qag (x:ziv):Gc:=(lpO q48 (x.1,x.2,0)).bind fun a=>elim (fun b=>some b) (fun b=>some (-1)) a
def q17:ziv->Gc:=qag
theorem qb3:@Eq ((ziv)->G4 Int) zjI.F q17:=by kernel_rfl
def q3n:zol->G4 (Step zol zdK):=fun a=>if decide (a.2.2 < Sl.len a.1)=true then ((zd a.1 a.2.2).bind fun b=>if decide (b.T_=a.2.1)=true then (zd a.1 a.2.2).bind fun c=>some (a.1,a.2.1,a.2.2,decide (c.K_.len=0)) else some (a.1,a.2.1,a.2.2,false)).bind fun b=>if b.2.2.2=true then some (Step.done (inl b.2.2.1)) else some (Step.next (b.1,b.2.1,G5 (b.2.2.1+1))) else some (Step.done (inr ()))
def q93 (x:ziw):Gc:=(lpO q3n (x.1,x.2,0)).bind fun a=>elim (fun b=>some b) (fun b=>some (-1)) a
def q19:ziw->Gc:=q93
theorem qhb:@Eq ((ziw)->G4 Int) zmS.F q19:=by kernel_rfl
def q6k (x:V3):G4 (Sl qq):=(if decide (x.1=lit [60])=true then some (x.1,x.2.1,x.2.2.1,x.2.2.2.1,x.2.2.2.2,Sl.mk ([]++[qq.mk x.2.1 x.2.2.1 (G5 (G5 (x.2.2.2.2 - x.2.2.2.1) - 1))]) (false || ![qq.mk x.2.1 x.2.2.1 (G5 (G5 (x.2.2.2.2 - x.2.2.2.1) - 1))].isEmpty)) else some (x.1,x.2.1,x.2.2.1,x.2.2.2.1,x.2.2.2.2,Sl.mk [] false)).bind fun a=>(if decide (a.1=lit [60,61])=true then some (a.1,a.2.1,a.2.2.1,a.2.2.2.1,a.2.2.2.2.1,true,a.2.2.2.2.2) else some (a.1,a.2.1,a.2.2.1,a.2.2.2.1,a.2.2.2.2.1,decide (a.1=lit [61,61]),a.2.2.2.2.2)).bind fun b=>(if b.2.2.2.2.2.1=true then (zp 24 b.2.2.2.2.2.2 [qq.mk b.2.1 b.2.2.1 (G5 (b.2.2.2.2.1 - b.2.2.2.1))]).bind fun c=>some (b.1,b.2.1,b.2.2.1,b.2.2.2.1,b.2.2.2.2.1,c) else some (b.1,b.2.1,b.2.2.1,b.2.2.2.1,b.2.2.2.2.1,b.2.2.2.2.2.2)).bind fun c=>(if decide (c.1=lit [61,61])=true then (zp 24 c.2.2.2.2.2 [qq.mk c.2.2.1 c.2.1 (G5 (c.2.2.2.1 - c.2.2.2.2.1))]).bind fun d=>some d else some c.2.2.2.2.2).bind fun d=>some d
def q18:V3->G4 (Sl qq):=q6k
theorem qi4:@Eq ((V3)->G4 (Sl qq)) zmT.F q18:=by kernel_rfl
def q4k (A:zdF) (B:zbY) (C:zdz) (D:zdt):znA->G4 (Step znA zwm):=fun a=>if decide (a.2.1 < a.1)=true then (zd a.2.2.2.2.1 a.2.1).bind fun b=>(zd a.2.2.2.2.1 a.2.1).bind fun c=>if decide (c.T_=a.2.2.2.2.2.2.2.2.1.T_)=true then some (Step.done (inl (a.2.2.2.2.2.2.2.2.1.a_,30,a.2.2.1,a.2.2.2.2.2.2.2.1,a.2.2.2.2.2.2.2.2.2))) else some (Step.next (a.1,G5 (a.2.1+1),a.2.2.1,a.2.2.2.1,a.2.2.2.2.1,a.2.2.2.2.2.1,kr a.2.2.2.2.2.2.1,a.2.2.2.2.2.2.2.1,kr a.2.2.2.2.2.2.2.2.1,a.2.2.2.2.2.2.2.2.2)) else some (Step.done (inr (a.1,a.2.2.1,a.2.2.2.1,a.2.2.2.2.1,a.2.2.2.2.2.1,kr a.2.2.2.2.2.2.1,a.2.2.2.2.2.2.2.1,kr a.2.2.2.2.2.2.2.2.1,a.2.2.2.2.2.2.2.2.2)))
def q3q (A:zdF) (B:zbY) (C:zdz) (D:zdt):znB->G4 (Step znB zws):=fun a=>if decide (a.1 < Sl.len a.2.2.2.1)=true then ((zd a.2.2.2.1 a.1).bind fun b=>(zd a.2.2.2.1 a.1).bind fun c=>(lpO (q4k A B C D) (a.1,0,a.2.1,a.2.2.1,a.2.2.2.1,a.2.2.2.2.1,kr a.2.2.2.2.2.1,a.2.2.2.2.2.2.1,kr c,a.2.2.2.2.2.2.2)).bind fun d=>elim (fun e=>some (inl e)) (fun e=>(if decide (0 < e.2.2.2.2.2.2.2.1.K_.len)=true then (zd e.2.2.2.2.2.2.2.1.K_ 0).bind fun i=>(C (e.2.2.2.1,i.T_)).bind fun j=>(if decide (e.2.2.2.2.2.1.T_≠lit [111,119,110])=true then some (e.1,j,true,e.2.1,e.2.2.1,e.2.2.2.1,e.2.2.2.2.1,kr e.2.2.2.2.2.1,e.2.2.2.2.2.2.1,kr e.2.2.2.2.2.2.2.1,e.2.2.2.2.2.2.2.2) else some (e.1,j,decide (j < 0),e.2.1,e.2.2.1,e.2.2.2.1,e.2.2.2.2.1,kr e.2.2.2.2.2.1,e.2.2.2.2.2.2.1,kr e.2.2.2.2.2.2.2.1,e.2.2.2.2.2.2.2.2)).bind fun l=>if l.2.2.1=true then some (inl (l.2.2.2.2.2.2.2.2.2.1.a_,32,l.2.2.2.1,l.2.2.2.2.2.2.2.2.1,l.2.2.2.2.2.2.2.2.2.2)) else some (inr (l.1,l.2.1,l.2.2.2.1,l.2.2.2.2.1,l.2.2.2.2.2.1,l.2.2.2.2.2.2.1,kr l.2.2.2.2.2.2.2.1,l.2.2.2.2.2.2.2.2.1,kr l.2.2.2.2.2.2.2.2.2.1,l.2.2.2.2.2.2.2.2.2.2)) else some (inr (e.1, -1,e.2.1,e.2.2.1,e.2.2.2.1,e.2.2.2.2.1,kr e.2.2.2.2.2.1,e.2.2.2.2.2.2.1,kr e.2.2.2.2.2.2.2.1,e.2.2.2.2.2.2.2.2))).bind fun i=>elim (fun j=>some (inl j)) (fun j=>(zp 24 j.2.2.2.2.2.2.2.2.2 [qk.mk j.2.2.2.2.2.2.2.2.1.T_ j.2.1]).bind fun l=>some (inr (j.1,j.2.2.1,j.2.2.2.1,j.2.2.2.2.1,j.2.2.2.2.2.1,kr j.2.2.2.2.2.2.1,j.2.2.2.2.2.2.2.1,l))) i) d).bind fun b=>elim (fun c=>some (Step.done (inl c))) (fun c=>some (Step.next (G5 (c.1+1),c.2.1,c.2.2.1,c.2.2.2.1,c.2.2.2.2.1,kr c.2.2.2.2.2.1,c.2.2.2.2.2.2))) b else some (Step.done (inr (a.2.1,a.2.2.1,a.2.2.2.1,a.2.2.2.2.1,kr a.2.2.2.2.2.1,a.2.2.2.2.2.2)))
def q8d (A:zdF) (B:zbY) (C:zdz) (D:zdt):znw->G4 (Step znw tA4):=fun a=>if decide (a.2.2.1 < 2)=true then ((zd a.2.2.2.2.2.2.1 a.2.1).bind fun b=>(zd a.2.2.2.2.2.2.1 a.2.1).bind fun c=>(zd c.K_ a.2.2.1).bind fun d=>if decide (d.T_=lit [])=true then some (inl a) else (C (a.2.2.2.2.2.1,d.T_)).bind fun e=>(if decide (e < 0)=true then some (a.1,a.2.1,a.2.2.1,e,true,a.2.2.2) else some (a.1,a.2.1,a.2.2.1,e,decide (e=a.1),a.2.2.2)).bind fun i=>if i.2.2.2.2.1=true then (zd i.2.2.2.2.2.2.2.2.1 i.2.1).bind fun j=>(zd i.2.2.2.2.2.2.2.2.1 i.2.1).bind fun l=>some (inr (l.a_,33,i.2.2.2.2.2.1,i.2.2.2.2.2.2.2.2.2.1,i.2.2.2.2.2.2.2.2.2.2.2)) else (zd i.2.2.2.2.2.2.2.2.2.2.1 i.2.2.1).bind fun m=>(zd i.2.2.2.2.2.2.2.2.2.2.1 i.2.2.1).bind fun n=>some (inl (i.1,i.2.1,i.2.2.1,i.2.2.2.2.2.1,i.2.2.2.2.2.2.1,i.2.2.2.2.2.2.2.1,i.2.2.2.2.2.2.2.2.1,i.2.2.2.2.2.2.2.2.2.1,Sl.set i.2.2.2.2.2.2.2.2.2.2.1 i.2.2.1 (G5 (i.2.2.2.1+1)),i.2.2.2.2.2.2.2.2.2.2.2))).bind fun b=>elim (fun c=>some (Step.next (c.1,c.2.1,G5 (c.2.2.1+1),c.2.2.2))) (fun c=>some (Step.done (inl c))) b else some (Step.done (inr (a.1,a.2.1,a.2.2.2)))
def q4l (A:zdF) (B:zbY) (C:zdz) (D:zdt):zsg->G4 (Step zsg zkx):=fun a=>if decide (a.2.2.1 < Sl.len a.2.2.2.2.2.2.2.2.1)=true then (zd a.2.2.2.2.2.2.2.2.1 a.2.2.1).bind fun b=>(zd a.2.2.2.2.2.2.2.2.1 a.2.2.1).bind fun c=>(zp 24 a.2.2.2.2.2.2.2.2.2.2 [c]).bind fun d=>some (Step.next (a.1,a.2.1,G5 (a.2.2.1+1),a.2.2.2.1,a.2.2.2.2.1,a.2.2.2.2.2.1,a.2.2.2.2.2.2.1,a.2.2.2.2.2.2.2.1,a.2.2.2.2.2.2.2.2.1,a.2.2.2.2.2.2.2.2.2.1,d)) else some (Step.done (a.1,a.2.1,a.2.2.2.1,a.2.2.2.2.1,a.2.2.2.2.2.1,a.2.2.2.2.2.2.1,a.2.2.2.2.2.2.2.1,a.2.2.2.2.2.2.2.2.2))
def q39 (A:zdF) (B:zbY) (C:zdz) (D:zdt):zkx->G4 (Step zkx zwt):=fun a=>if decide (a.2.1 < Sl.len a.2.2.2.2.2.1)=true then (lpO (q8d A B C D) (a.1,a.2.1,0,a.2.2.1,a.2.2.2.1,a.2.2.2.2.1,a.2.2.2.2.2.1,a.2.2.2.2.2.2.1,Sl.mk [0,0] true,a.2.2.2.2.2.2.2)).bind fun b=>elim (fun c=>some (Step.done (inl c))) (fun c=>(zd c.2.2.2.2.2.1 c.2.1).bind fun d=>(zd c.2.2.2.2.2.1 c.2.1).bind fun e=>(zd c.2.2.2.2.2.2.2.1 0).bind fun i=>(zd c.2.2.2.2.2.2.2.1 0).bind fun j=>(zd c.2.2.2.2.2.2.2.1 1).bind fun l=>(zd c.2.2.2.2.2.2.2.1 1).bind fun m=>(zd c.2.2.2.2.2.1 c.2.1).bind fun n=>(zd c.2.2.2.2.2.1 c.2.1).bind fun o=>(zd o.K_ 0).bind fun p=>(zd c.2.2.2.2.2.1 c.2.1).bind fun r=>(zd c.2.2.2.2.2.1 c.2.1).bind fun s=>(zd s.K_ 1).bind fun t=>(D (e.T_,j,m,p.N_,t.N_)).bind fun u=>(lpO (q4l A B C D) (c.1,c.2.1,0,c.2.2.1,c.2.2.2.1,c.2.2.2.2.1,c.2.2.2.2.2.1,c.2.2.2.2.2.2.1,u,c.2.2.2.2.2.2.2.2)).bind fun v=>some (Step.next (v.1,G5 (v.2.1+1),v.2.2))) b else some (Step.done (inr (a.2.2.1,a.2.2.2.1,a.2.2.2.2.2.2)))
def q8e (A:zdF) (B:zbY) (C:zdz) (D:zdt) (x:XY):G4 zis:=(A (kr x.1,3)).bind fun a=>(A (kr x.1,4)).bind fun b=>(zd x.1.K_ 0).bind fun c=>(B (x.2,x.1.T_)).bind fun d=>if decide (0<=d)=true then some (qc.mk x.1.T_ 0 0 (Sl.mk [] false) (Sl.mk [] false),x.1.a_,30,x.2) else if decide (8 < a.len)=true then some (qc.mk x.1.T_ 0 0 (Sl.mk [] false) (Sl.mk [] false),x.1.a_,22,x.2) else (lpO (q3q A B C D) (0,x.2,(lit [],0,0),a,b,kr c,(x.1.T_,0,0),Sl.mk [] false)).bind fun e=>elim (fun i=>some (qc.mk i.2.2.2.1.1 i.2.2.2.1.2.1 i.2.2.2.1.2.2 i.2.2.2.2 (Sl.mk [] false),i.1,i.2.1,i.2.2.1)) (fun i=>(if decide (i.2.2.2.2.1.T_=lit [99,101,108,108])=true then some (inl (-1,i.1,i.2.1,i.2.2.1,i.2.2.2.1,(i.2.2.2.2.2.1.1,1,i.2.2.2.2.2.1.2.2),i.2.2.2.2.2.2)) else (if decide (i.2.2.2.2.1.T_=lit [99,111,117,110,116,101,100])=true then some (-1,i.2.2.2.2.1.T_,decide (i.2.2.2.2.1.T_=lit [99,111,117,110,116,101,100]),i.1,i.2.1,i.2.2.1,i.2.2.2.1,kr i.2.2.2.2.1,i.2.2.2.2.2) else some (-1,i.2.2.2.2.1.T_,decide (i.2.2.2.2.1.T_=lit [108,111,99,107]),i.1,i.2.1,i.2.2.1,i.2.2.2.1,kr i.2.2.2.2.1,i.2.2.2.2.2)).bind fun j=>(if j.2.2.1=true then (if decide (j.2.2.2.2.2.2.2.1.T_=lit [108,111,99,107])=true then some (j.2.2.2.1,j.2.2.2.2.1,j.2.2.2.2.2.1,j.2.2.2.2.2.2.1,kr j.2.2.2.2.2.2.2.1,(j.2.2.2.2.2.2.2.2.1.1,3,j.2.2.2.2.2.2.2.2.1.2.2),j.2.2.2.2.2.2.2.2.2) else some (j.2.2.2.1,j.2.2.2.2.1,j.2.2.2.2.2.1,j.2.2.2.2.2.2.1,kr j.2.2.2.2.2.2.2.1,(j.2.2.2.2.2.2.2.2.1.1,2,j.2.2.2.2.2.2.2.2.1.2.2),j.2.2.2.2.2.2.2.2.2)).bind fun l=>(zd l.2.2.2.2.1.K_ 0).bind fun m=>(C (l.2.2.1,m.T_)).bind fun n=>if decide (n < 0)=true then some (inl (l.2.2.2.2.1.a_,32,l.1,l.2.2.2.2.2)) else some (inr (n,l.1,l.2.1,l.2.2.1,l.2.2.2.1,(l.2.2.2.2.2.1.1,l.2.2.2.2.2.1.2.1,n),l.2.2.2.2.2.2)) else (if decide (j.2.1=lit [103,117,97,114,100])=true then (zd j.2.2.2.2.2.2.2.1.K_ 0).bind fun o=>(B (j.2.2.2.1,o.T_)).bind fun p=>if decide (p < 0)=true then some (inl (j.2.2.2.2.2.2.2.1.a_,31,j.2.2.2.1,(j.2.2.2.2.2.2.2.2.1.1,4,p),j.2.2.2.2.2.2.2.2.2)) else (zd j.2.2.2.1 p).bind fun r=>(zd j.2.2.2.1 p).bind fun s=>if decide (s.s_≠3)=true then some (inl (j.2.2.2.2.2.2.2.1.a_,31,j.2.2.2.1,(j.2.2.2.2.2.2.2.2.1.1,4,p),j.2.2.2.2.2.2.2.2.2)) else (if decide (0 < Sl.len j.2.2.2.2.2.1)=true then some (j.1,true,j.2.2.2.1,j.2.2.2.2.1,j.2.2.2.2.2.1,j.2.2.2.2.2.2.1,kr j.2.2.2.2.2.2.2.1,(j.2.2.2.2.2.2.2.2.1.1,4,p),j.2.2.2.2.2.2.2.2.2) else some (j.1,decide (0 < Sl.len j.2.2.2.2.2.2.1),j.2.2.2.1,j.2.2.2.2.1,j.2.2.2.2.2.1,j.2.2.2.2.2.2.1,kr j.2.2.2.2.2.2.2.1,(j.2.2.2.2.2.2.2.2.1.1,4,p),j.2.2.2.2.2.2.2.2.2)).bind fun t=>if t.2.1=true then some (inl (t.2.2.2.2.2.2.1.a_,32,t.2.2.1,t.2.2.2.2.2.2.2)) else some (inr (t.1,t.2.2.1,t.2.2.2.1,t.2.2.2.2.1,t.2.2.2.2.2.1,t.2.2.2.2.2.2.2)) else some (inr (j.1,j.2.2.2.1,j.2.2.2.2.1,j.2.2.2.2.2.1,j.2.2.2.2.2.2.1,j.2.2.2.2.2.2.2.2))).bind fun o=>elim (fun p=>some (inl p)) (fun p=>some (inr p)) o).bind fun l=>elim (fun m=>some (inr m)) (fun m=>some (inl m)) l).bind fun j=>elim (fun l=>(lpO (q39 A B C D) (l.1,0,l.2.1,l.2.2.1,l.2.2.2.1,l.2.2.2.2.1,l.2.2.2.2.2.1,l.2.2.2.2.2.2,Sl.mk [] false)).bind fun m=>elim (fun n=>some (qc.mk n.2.2.2.1.1 n.2.2.2.1.2.1 n.2.2.2.1.2.2 n.2.2.2.2.1 n.2.2.2.2.2,n.1,n.2.1,n.2.2.1)) (fun n=>some (qc.mk n.2.2.1.1 n.2.2.1.2.1 n.2.2.1.2.2 n.2.2.2.1 n.2.2.2.2,0,0,n.1)) m) (fun l=>some (qc.mk l.2.2.2.1.1 l.2.2.2.1.2.1 l.2.2.2.1.2.2 l.2.2.2.2 (Sl.mk [] false),l.1,l.2.1,l.2.2.1)) j) e
def q3d:XY->G4 zis:=q8e q1a q17 q19 q18
theorem qjl:@Eq ((XY)->G4 zis) zq0.F q3d:=by delta q3d;rw [<-qiw,<-qb3,<-qhb,<-qi4];kernel_rfl
def q3x (A:zta):ziA->G4 (Step ziA (zY⊕Gd)):=fun a=>if decide (a.1 < a.2.1.K_.len)=true then ((zd a.2.1.K_ a.1).bind fun b=>if decide (b.k_≠1)=true then some (inl (a.1,kr a.2.1,a.2.2)) else (zd a.2.1.K_ a.1).bind fun c=>(A (kr c,a.2.2)).bind fun d=>if decide (d.2.2.1≠0)=true then some (inr (d.2.1,d.2.2.1)) else (zp 80 d.2.2.2 [d.1]).bind fun e=>some (inl (a.1,kr a.2.1,e))).bind fun b=>elim (fun c=>some (Step.next (G5 (c.1+1),kr c.2.1,c.2.2))) (fun c=>some (Step.done (inl c))) b else some (Step.done (inr a.2.2))
def q6l (A:zta) (x:q6):G4 (Int×Int×Gd):=(lpO (q3x A) (0,kr x,Sl.mk [] false)).bind fun a=>elim (fun b=>some (b.1,b.2,Sl.mk [] false)) (fun b=>some (0,0,b)) a
def q1t:zii:=q6l q3d
theorem qdo:@Eq zii zq1.F q1t:=by delta q1t;rw [<-qjl];kernel_rfl
def q7m (A:zbY) (x:XY):G4 zfV:=(if decide (x.1.T_=lit [105,110,116])=true then some (x.2,kr x.1,qh.mk (lit []) 0 0,qh.mk (lit []) 1 0) else (if decide (x.1.T_=lit [111,119,110])=true then some (x.2,kr x.1,qh.mk (lit []) 0 0,qh.mk (lit []) 2 0) else (if decide (x.1.T_=lit [38])=true then some (x.2,kr x.1,qh.mk (lit []) 0 0,qh.mk (lit []) 3 0) else (if decide (x.1.T_=lit [38,109,117,116])=true then some (x.2,kr x.1,qh.mk (lit []) 0 0,qh.mk (lit []) 4 0) else some (x.2,kr x.1,qh.mk (lit []) 0 0,qh.mk (lit []) 0 0)).bind fun a=>some (a.1,kr a.2.1,a.2.2)).bind fun a=>some (a.1,kr a.2.1,a.2.2)).bind fun a=>some (a.1,kr a.2.1,a.2.2)).bind fun a=>(if decide (1 < a.2.2.2.M_)=true then (zd a.2.1.K_ 0).bind fun b=>(A (a.1,b.T_)).bind fun c=>if decide (c < 0)=true then some (inl (false,qh.mk (lit []) 0 0)) else some (inr (a.2.2.1,qh.mk a.2.2.2.n_ a.2.2.2.M_ c)) else some (inr a.2.2)).bind fun b=>elim (fun c=>some (c.2,c.1)) (fun c=>some (c.2,true)) b
def q1y:XY->G4 zfV:=q7m q17
theorem qix:@Eq ((XY)->G4 zfV) zq2.F q1y:=by delta q1y;rw [<-qb3];kernel_rfl
def q4m (A:zig):zse->G4 (Step zse zwl):=fun a=>if decide (a.2.2.2.1 < a.2.2.1)=true then (zd a.2.2.2.2.1.K_ a.2.2.2.1).bind fun b=>if decide (b.T_=a.2.2.2.2.2.2.2.1.T_)=true then some (Step.done (inl (a.2.2.2.2.2.2.2.1.a_,30,lit [],lit [],0,0))) else some (Step.next (a.1,a.2.1,a.2.2.1,G5 (a.2.2.2.1+1),kr a.2.2.2.2.1,a.2.2.2.2.2.1,a.2.2.2.2.2.2.1,kr a.2.2.2.2.2.2.2.1,a.2.2.2.2.2.2.2.2)) else some (Step.done (inr (a.1,a.2.1,a.2.2.1,kr a.2.2.2.2.1,a.2.2.2.2.2.1,a.2.2.2.2.2.2.1,kr a.2.2.2.2.2.2.2.1,a.2.2.2.2.2.2.2.2)))
def q4n (A:zig):zsb->G4 (Step zsb tA7):=fun a=>if decide (a.2.2.2.1 < a.2.2.1)=true then (zd a.2.2.2.2.2.2.2.2.2 a.2.2.2.1).bind fun b=>(zd a.2.2.2.2.2.2.2.2.2 a.2.2.2.1).bind fun c=>(if decide (1 < a.2.2.2.2.2.2.2.2.1.M_)=true then if decide (1 < c.M_)=true then if decide (a.2.2.2.2.2.2.2.2.1.t_=c.t_)=true then (zd a.1 a.2.2.2.2.2.2.2.2.1.t_).bind fun d=>some (a.1,a.2.1,a.2.2.1,a.2.2.2.1,decide (d.s_≠0),kr a.2.2.2.2.1,a.2.2.2.2.2.1,a.2.2.2.2.2.2.1,kr a.2.2.2.2.2.2.2.1,a.2.2.2.2.2.2.2.2) else some (a.1,a.2.1,a.2.2.1,a.2.2.2.1,false,kr a.2.2.2.2.1,a.2.2.2.2.2.1,a.2.2.2.2.2.2.1,kr a.2.2.2.2.2.2.2.1,a.2.2.2.2.2.2.2.2) else some (a.1,a.2.1,a.2.2.1,a.2.2.2.1,false,kr a.2.2.2.2.1,a.2.2.2.2.2.1,a.2.2.2.2.2.2.1,kr a.2.2.2.2.2.2.2.1,a.2.2.2.2.2.2.2.2) else some (a.1,a.2.1,a.2.2.1,a.2.2.2.1,false,kr a.2.2.2.2.1,a.2.2.2.2.2.1,a.2.2.2.2.2.2.1,kr a.2.2.2.2.2.2.2.1,a.2.2.2.2.2.2.2.2)).bind fun d=>if d.2.2.2.2.1=true then (zd d.2.2.2.2.2.2.2.2.1.K_ 0).bind fun e=>some (Step.done (inl (e.a_,34,lit [],lit [],0,0))) else some (Step.next (d.1,d.2.1,d.2.2.1,G5 (d.2.2.2.1+1),kr d.2.2.2.2.2.1,d.2.2.2.2.2.2.1,d.2.2.2.2.2.2.2.1,kr d.2.2.2.2.2.2.2.2.1,d.2.2.2.2.2.2.2.2.2)) else some (Step.done (inr (a.1,a.2.1,a.2.2.1,kr a.2.2.2.2.1,a.2.2.2.2.2.1,a.2.2.2.2.2.2.1,kr a.2.2.2.2.2.2.2.1,a.2.2.2.2.2.2.2.2)))
def q4o (A:zig):znz->G4 (Step znz zwp):=fun a=>if decide (a.2.2.1 < a.2.1)=true then ((zd a.2.2.2.1.K_ a.2.2.1).bind fun b=>(lpO (q4m A) (a.1,a.2.1,a.2.2.1,0,kr a.2.2.2.1,a.2.2.2.2.1,a.2.2.2.2.2.1,kr b,a.2.2.2.2.2.2)).bind fun c=>elim (fun d=>some (inl d)) (fun d=>(zd d.2.2.2.2.2.2.1.K_ 0).bind fun e=>(A (kr e,d.1)).bind fun i=>if (!i.2)=true then (zd d.2.2.2.2.2.2.1.K_ 0).bind fun j=>some (inl (j.a_,31,lit [],lit [],0,0)) else (lpO (q4n A) (d.1,d.2.1,d.2.2.1,0,kr d.2.2.2.1,d.2.2.2.2.1,d.2.2.2.2.2.1,kr d.2.2.2.2.2.2.1,i.1,d.2.2.2.2.2.2.2)).bind fun l=>elim (fun m=>some (inl m)) (fun m=>(zp 32 m.2.2.2.2.2.2.2.2 [qh.mk m.2.2.2.2.2.2.1.T_ m.2.2.2.2.2.2.2.1.M_ m.2.2.2.2.2.2.2.1.t_]).bind fun n=>some (inr (m.1,m.2.1,m.2.2.1,kr m.2.2.2.1,m.2.2.2.2.1,m.2.2.2.2.2.1,n))) l) c).bind fun b=>elim (fun c=>some (Step.done (inl c))) (fun c=>some (Step.next (c.1,c.2.1,G5 (c.2.2.1+1),kr c.2.2.2.1,c.2.2.2.2))) b else some (Step.done (inr (a.1,a.2.1,kr a.2.2.2.1,a.2.2.2.2)))
def q8f (A:zig) (x:XY):G4 ziF:=if decide (8 < G5 (x.1.K_.len - 2))=true then some (qg.mk (lit []) (Sl.mk [] false) (qh.mk (lit []) 0 0),x.1.a_,22) else (lpO (q4o A) (x.2,G5 (x.1.K_.len - 2),0,kr x.1,(lit [],lit [],0,0),(x.1.T_,lit [],0,0),Sl.mk [] false)).bind fun a=>elim (fun b=>some (qg.mk b.2.2.1 (Sl.mk [] false) (qh.mk b.2.2.2.1 b.2.2.2.2.1 b.2.2.2.2.2),b.1,b.2.1)) (fun b=>(zd b.2.2.1.K_ b.2.1).bind fun c=>(A (kr c,b.1)).bind fun d=>if (!d.2)=true then (zd b.2.2.1.K_ b.2.1).bind fun e=>some (qg.mk (lit []) (Sl.mk [] false) (qh.mk (lit []) 0 0),e.a_,31) else some (qg.mk b.2.2.2.2.1.1 b.2.2.2.2.2 d.1,0,0)) a
def q3e:XY->G4 ziF:=q8f q1y
theorem qjm:@Eq ((XY)->G4 ziF) zq3.F q3e:=by delta q3e;rw [<-qix];kernel_rfl
def q49 (A:ztn):zip->G4 (Step zip (zY⊕Sl qg)):=fun a=>if decide (a.2.1 < a.2.2.1.K_.len)=true then ((zd a.2.2.1.K_ a.2.1).bind fun b=>if decide (b.k_≠6)=true then some (inl (a.1,a.2.1,kr a.2.2.1,a.2.2.2)) else (zd a.2.2.1.K_ a.2.1).bind fun c=>(A (kr c,a.1)).bind fun d=>if decide (d.2.2≠0)=true then some (inr d.2) else (zp 72 a.2.2.2 [d.1]).bind fun e=>some (inl (a.1,a.2.1,kr a.2.2.1,e))).bind fun b=>elim (fun c=>some (Step.next (c.1,G5 (c.2.1+1),kr c.2.2.1,c.2.2.2))) (fun c=>some (Step.done (inl c))) b else some (Step.done (inr a.2.2.2))
def q7n (A:ztn) (x:XY):G4 ziy:=(lpO (q49 A) (x.2,0,kr x.1,Sl.mk [] false)).bind fun a=>elim (fun b=>some (b.1,b.2,Sl.mk [] false)) (fun b=>some (0,0,b)) a
def q1r:XY->G4 ziy:=q7n q3e
theorem qen:@Eq ((XY)->G4 ziy) zq4.F q1r:=by delta q1r;rw [<-qjm];kernel_rfl
def q3j (A:V2) (B:zih) (C:ztg) (D:zic) (E:zii) (G:zth):znF->G4 (Step znF zs0):=fun a=>if decide (a.2.2.2.2.1 < a.2.2.2.1)=true then (zd a.2.2.1 a.2.2.2.2.1).bind fun b=>(if decide (b.k_=6)=true then (zp 64 a.2.2.2.2.2.2.2.2.2.1 [kg b]).bind fun c=>(zd a.2.2.2.2.2.2.1.K_ a.2.2.2.2.1).bind fun d=>(zp 64 a.2.2.2.2.2.2.2.2.2.2 [kr d]).bind fun e=>some (a.1,a.2.1,a.2.2.1,a.2.2.2.1,a.2.2.2.2.1,a.2.2.2.2.2.1,kr a.2.2.2.2.2.2.1,a.2.2.2.2.2.2.2.1,a.2.2.2.2.2.2.2.2.1,c,e) else some (a.1,a.2.1,a.2.2.1,a.2.2.2.1,a.2.2.2.2.1,a.2.2.2.2.2.1,kr a.2.2.2.2.2.2.1,a.2.2.2.2.2.2.2)).bind fun c=>some (Step.next (c.1,c.2.1,c.2.2.1,c.2.2.2.1,G5 (c.2.2.2.2.1+1),c.2.2.2.2.2.1,kr c.2.2.2.2.2.2.1,c.2.2.2.2.2.2.2)) else some (Step.done (a.1,a.2.1,a.2.2.2.2.2.1,a.2.2.2.2.2.2.2))
def q5v (A:V2) (B:zih) (C:ztg) (D:zic) (E:zii) (G:zth) (x:Zr):G4 (qw×Bool):=(A x).bind fun a=>if decide (a.2.2≠0)=true then some (qw.mk (Sl.mk [] false) (Sl.mk [] false) (Sl.mk [] false) (Sl.mk [] false) (Sl.mk [] false) (Sl.mk [] false),false) else (B (kg a.1)).bind fun b=>(C (kg a.1,b.2.2)).bind fun c=>(D x).bind fun d=>(E (kr d.1)).bind fun e=>(G (kr d.1,e.2.2)).bind fun i=>(lpO (q3j A B C D E G) (b.2.1,c.2.1,a.1.K_,a.1.K_.len,0,c.2.2,kr d.1,i.2.2,(b.2.2,e.2.2),Sl.mk [] false,Sl.mk [] false)).bind fun j=>(if decide (j.1=0)=true then if decide (j.2.1=0)=true then if decide (Sl.len j.2.2.1=Sl.len j.2.2.2.2.2.1)=true then some (decide (Sl.len j.2.2.2.1=Sl.len j.2.2.2.2.2.1),j.2.2.2.2.1,j.2.2.2.2.2.1,j.2.2.1,j.2.2.2.2.2.2,j.2.2.2.1) else some (false,j.2.2.2.2.1,j.2.2.2.2.2.1,j.2.2.1,j.2.2.2.2.2.2,j.2.2.2.1) else some (false,j.2.2.2.2.1,j.2.2.2.2.2.1,j.2.2.1,j.2.2.2.2.2.2,j.2.2.2.1) else some (false,j.2.2.2.2.1,j.2.2.2.2.2.1,j.2.2.1,j.2.2.2.2.2.2,j.2.2.2.1)).bind fun l=>some (qw.mk l.2.2.1 l.2.1.1 l.2.2.2.1 l.2.2.2.2.1 l.2.1.2 l.2.2.2.2.2,l.1)
def q1c:zdA:=q5v q1o q3f q3y q22 q1t q1r
theorem q97:@Eq zdA zmU.F q1c:=by delta q1c;rw [<-q8p,<-qj9,<-qku,<-qaj,<-qdo,<-qen];kernel_rfl
def qah (x:zh4):G4 xC:=if (!x.1)=true then some (inl ((x.2.2.1.2.2,x.2.1),x.2.2)) else some (inr x.2.2)
def q2t:zh4->G4 xC:=qah
theorem qeo:@Eq ((zh4)->G4 xC) zjJ.F q2t:=by kernel_rfl
def q94 (A:zr9) (x:znY):G4 xC:=(A (x.2.1,x.2.2.1,(x.2.2.2.1.1,x.2.2.2.1.2.1,x.1.a_),x.2.2.2.2)).bind fun a=>elim (fun b=>some (inl b)) (fun b=>some (inr b)) a
def q1v:znY->G4 xC:=q94 q2t
theorem qcj:@Eq ((znY)->G4 xC) zmV.F q1v:=by delta q1v;rw [<-qeo];kernel_rfl
def qbt (x:ziG):G4 ZZ:=some (decide (x.1.n_=x.2),x.2)
def q60:ziG->G4 ZZ:=qbt
theorem qkn:@Eq ((ziG)->G4 ZZ) zmW.F q60:=by kernel_rfl
def q4x (A:zte):zoe->G4 (Step zoe V5):=fun a=>if decide (a.2.2.1 < a.2.1)=true then (zd a.1 a.2.2.1).bind fun b=>(A (b,a.2.2.2)).bind fun c=>if c.1=true then some (Step.done (inl (a.2.2.1,c.2))) else some (Step.next (a.1,a.2.1,G5 (a.2.2.1+1),c.2)) else some (Step.done (inr a.2.2.2))
def qbh (A:zte) (x:ziz):G4 yr:=(lpO (q4x A) (x.1,Sl.len x.1,0,x.2)).bind fun a=>elim (fun b=>some b) (fun b=>some (-1,b)) a
def q9i:ziz->G4 yr:=qbh q60
theorem qk6:@Eq ((ziz)->G4 yr) zq5.F q9i:=by delta q9i;rw [<-qkn];kernel_rfl
def qd4 (A:ziz->G4 yr) (x:qb×G1):Gc:=(A (x.1.V_,x.2)).bind fun a=>some a.1
def q2d:zfO:=qd4 q9i
theorem q5y:@Eq ((qb×G1)->G4 Int) zgq.F q2d:=by delta q2d;rw [<-qk6];kernel_rfl
def q3h (A:zkv) (B:zfO) (C:zbX) (D:zr9):znx->G4 (Step znx zwu):=fun a=>if decide (a.2.2.2.1 < a.2.2.1)=true then ((zd a.2.1 a.2.2.2.1).bind fun b=>(zd b.K_ 0).bind fun c=>(B (qb.mk a.2.2.2.2.2.2.2.2.1.1 a.2.2.2.2.2.2.2.2.1.2 a.2.2.2.2.2.2.2.2.2,b.T_)).bind fun d=>(A (kg b,decide (d < 0),30,a.2.2.2.2.1,a.2.2.2.2.2.1)).bind fun e=>elim (fun i=>some (inl i)) (fun i=>(if decide (c.T_=lit [105,110,116])=true then (A (kg c,true,34,i)).bind fun j=>elim (fun l=>some (inl l)) (fun l=>some (inr (a.1,a.2.1,a.2.2.1,a.2.2.2.1,l.1,l.2,kg a.2.2.2.2.2.2.1,a.2.2.2.2.2.2.2.1,a.2.2.2.2.2.2.2.2.1,kg b,kg c,a.2.2.2.2.2.2.2.2.2))) j else (A (kg c,decide (c.T_=lit [111,119,110]),34,i)).bind fun l=>elim (fun m=>some (inl m)) (fun m=>some (inr (a.1,a.2.1,a.2.2.1,a.2.2.2.1,m.1,m.2,kg a.2.2.2.2.2.2.1,a.2.2.2.2.2.2.2.1,a.2.2.2.2.2.2.2.2.1,kg b,kg c,a.2.2.2.2.2.2.2.2.2))) l).bind fun j=>elim (fun l=>some (inl l)) (fun l=>(if decide (l.2.2.2.2.2.2.2.2.2.2.1.T_=lit [111,119,110])=true then (zd l.2.2.2.2.2.2.2.2.2.2.1.K_ 0).bind fun m=>(C (l.2.2.2.2.1.2.1,m.T_)).bind fun n=>(D (decide (0<=n),31,l.2.2.2.2.1,l.2.2.2.2.2.1)).bind fun o=>elim (fun p=>some (inl p)) (fun p=>some (inr (l.1,l.2.1,l.2.2.1,l.2.2.2.1,p.1,p.2,kg l.2.2.2.2.2.2.1,l.2.2.2.2.2.2.2.1,l.2.2.2.2.2.2.2.2.1,qf.mk l.2.2.2.2.2.2.2.2.2.1.T_ 2 n,l.2.2.2.2.2.2.2.2.2.2.2))) o else some (inr (l.1,l.2.1,l.2.2.1,l.2.2.2.1,l.2.2.2.2.1,l.2.2.2.2.2.1,kg l.2.2.2.2.2.2.1,l.2.2.2.2.2.2.2.1,l.2.2.2.2.2.2.2.2.1,qf.mk l.2.2.2.2.2.2.2.2.2.1.T_ 1 0,l.2.2.2.2.2.2.2.2.2.2.2))).bind fun m=>elim (fun n=>some (inl n)) (fun n=>(zp 32 n.2.2.2.2.2.2.2.2.2.2 [n.2.2.2.2.2.2.2.2.2.1]).bind fun o=>some (inr (n.1,n.2.1,n.2.2.1,n.2.2.2.1,n.2.2.2.2.1,n.2.2.2.2.2.1,kg n.2.2.2.2.2.2.1,n.2.2.2.2.2.2.2.1,n.2.2.2.2.2.2.2.2.1,o))) m) j) e).bind fun b=>elim (fun c=>some (Step.done (inl c))) (fun c=>some (Step.next (c.1,c.2.1,c.2.2.1,G5 (c.2.2.2.1+1),c.2.2.2.2.1,c.2.2.2.2.2.1,kg c.2.2.2.2.2.2.1,c.2.2.2.2.2.2.2))) b else some (Step.done (inr (a.1,a.2.2.2.2.1,a.2.2.2.2.2.1,kg a.2.2.2.2.2.2.1,a.2.2.2.2.2.2.2)))
def q7p (A:zkv) (B:zfO) (C:zbX) (D:zr9) (x:zob):G4 zkw:=(A (kg x.1,decide (G5 (x.1.K_.len - 2)<=8),22,x.2)).bind fun a=>elim (fun b=>some (inl b)) (fun b=>(Zu x.1.K_ 0 (G5 (x.1.K_.len - 2))).bind fun c=>(lpO (q3h A B C D) (G5 (x.1.K_.len - 2),c,c.len,0,b.1,b.2,kg x.1,(lit [],0),(x.1.T_,G5 (x.1.K_.len - 2)),Sl.mk [] false)).bind fun d=>elim (fun e=>some (inl e)) (fun e=>(zd e.2.2.2.1.K_ e.1).bind fun i=>(zd e.2.2.2.1.K_ e.1).bind fun j=>(A (kg i,decide (j.T_=lit []),35,e.2.1,e.2.2.1)).bind fun l=>elim (fun m=>some (inl m)) (fun m=>some (inr (e.2.2.2.2.2.1,m.1,m.2,e.2.2.2.2.2.2))) l) d) a
def q2u:zob->G4 zkw:=q7p q1v q2d q23 q2t
theorem qiy:@Eq ((zob)->G4 zkw) zq6.F q2u:=by delta q2u;rw [<-qcj,<-q5y,<-q9j,<-qeo];kernel_rfl
def q95 (x:zh0):G4 zM:=if (!x.1)=true then some (inl ((x.2.2.1.2.2.1,x.2.1),x.2.2)) else some (inr x.2.2)
def q14:zh0->G4 zM:=q95
theorem q2l:@Eq ((zh0)->G4 zM) Wk.F q14:=by kernel_rfl
def q6n (A:zfO) (B:Wu) (x:znZ):G4 Ww:=(zd x.2.2 x.2.1.2.2.2).bind fun a=>(zd x.2.2 x.2.1.2.2.2).bind fun b=>(A (qb.mk a.n_ a.P_ b.V_,x.1)).bind fun c=>(B (decide (0<=c),31,x.2)).bind fun d=>elim (fun e=>some (inl e)) (fun e=>(zd e.2 e.1.2.2.2).bind fun i=>(zd e.2 e.1.2.2.2).bind fun j=>(zd j.V_ c).bind fun l=>(zd e.2 e.1.2.2.2).bind fun m=>(zd m.V_ c).bind fun n=>some (inr (qf.mk (lit []) n.M_ n.t_,e))) d
def q3i:znZ->G4 Ww:=q6n q2d q14
theorem qdp:@Eq ((znZ)->G4 Ww) zmY.F q3i:=by delta q3i;rw [<-q5y,<-q2l];kernel_rfl
def q96 (x:qd×q7):G4 zfW:=some (decide (x.1.n_=x.2.T_),kg x.2)
def q3z:qd×q7->G4 zfW:=q96
theorem qhc:@Eq ((qd×q7)->G4 zfW) zmZ.F q3z:=by kernel_rfl
def q61 (A:ztu):zon->G4 (Step zon (Int×q7⊕q7)):=fun a=>if decide (a.2.2.1 < a.2.1)=true then (zd a.1 a.2.2.1).bind fun b=>(A (b,kg a.2.2.2)).bind fun c=>if c.1=true then some (Step.done (inl (a.2.2.1,kg c.2))) else some (Step.next (a.1,a.2.1,G5 (a.2.2.1+1),kg c.2)) else some (Step.done (inr (kg a.2.2.2)))
def qa4 (A:ztu) (x:Sl qd×q7):G4 (Int×q7):=(lpO (q61 A) (x.1,Sl.len x.1,0,kg x.2)).bind fun a=>elim (fun b=>some (b.1,kg b.2)) (fun b=>some (-1,kg b)) a
def q6g:Sl qd×q7->G4 (Int×q7):=qa4 q3z
theorem qkx:@Eq ((Sl qd×q7)->G4 (Int×q7)) zq7.F q6g:=by delta q6g;rw [<-qhc];kernel_rfl
def q8g (A:Wu) (B:zwn) (x:zn3):G4 zM:=if decide (x.1.T_=lit [])=true then (A (decide (x.2.1.M_=1),40,x.2.2)).bind fun a=>elim (fun b=>some (inl b)) (fun b=>some (inr b)) a else (B (x.1.T_,x.2.2)).bind fun b=>elim (fun c=>some (inl c)) (fun c=>(if decide (x.2.1.M_=1)=true then (A (decide (c.1.M_=1),40,c.2)).bind fun d=>elim (fun e=>some (inl e)) (fun e=>some (inr e)) d else (if decide (x.2.1.M_=3)=true then some (decide (c.1.M_=4),c.2.1,c.2.2,kg x.1,x.2.1,c.1) else some (false,c.2.1,c.2.2,kg x.1,x.2.1,c.1)).bind fun e=>(if e.1=true then (if decide (e.2.2.2.1.N_=0)=true then (A (decide (e.2.2.2.2.2.t_=e.2.2.2.2.1.t_),40,e.2.1,e.2.2.1)).bind fun i=>elim (fun j=>some (inl j)) (fun j=>some (inr j)) i else (A (false,40,e.2.1,e.2.2.1)).bind fun j=>elim (fun l=>some (inl l)) (fun l=>some (inr l)) j).bind fun i=>elim (fun j=>some (inl j)) (fun j=>some (inr j)) i else (if decide (e.2.2.2.1.N_=0)=true then if decide (e.2.2.2.2.2.M_=e.2.2.2.2.1.M_)=true then (A (decide (e.2.2.2.2.2.t_=e.2.2.2.2.1.t_),40,e.2.1,e.2.2.1)).bind fun j=>elim (fun l=>some (inl l)) (fun l=>some (inr l)) j else (A (false,40,e.2.1,e.2.2.1)).bind fun l=>elim (fun m=>some (inl m)) (fun m=>some (inr m)) l else (A (false,40,e.2.1,e.2.2.1)).bind fun m=>elim (fun n=>some (inl n)) (fun n=>some (inr n)) m).bind fun j=>elim (fun l=>some (inl l)) (fun l=>some (inr l)) j).bind fun i=>elim (fun j=>some (inl j)) (fun j=>some (inr j)) i).bind fun d=>elim (fun e=>some (inl e)) (fun e=>some (inr e)) d) b
def q1d:zn3->G4 zM:=q8g q14 q3i
theorem qbj:@Eq ((zn3)->G4 zM) zgr.F q1d:=by delta q1d;rw [<-q2l,<-qdp];kernel_rfl
def q5i (A:Wu) (B:zeE):znM->G4 (Step znM zM):=fun a=>if decide (a.2.2.2.1 < a.2.2.1)=true then (zd a.2.1 a.2.2.2.1).bind fun b=>(zd a.1 a.2.2.2.1).bind fun c=>(B (kg b,c,a.2.2.2.2)).bind fun d=>elim (fun e=>some (Step.done (inl e))) (fun e=>some (Step.next (a.1,a.2.1,a.2.2.1,G5 (a.2.2.2.1+1),e))) d else some (Step.done (inr a.2.2.2.2))
def q7q (A:Wu) (B:zeE) (x:zhZ):G4 zM:=(A (decide (Sl.len x.1=Sl.len x.2.1),51,x.2.2)).bind fun a=>elim (fun b=>some (inl b)) (fun b=>(lpO (q5i A B) (x.2.1,x.1,Sl.len x.1,0,b)).bind fun c=>elim (fun d=>some (inl d)) (fun d=>some (inr d)) c) a
def q4p:zhZ->G4 zM:=q7q q14 q1d
theorem qiz:@Eq ((zhZ)->G4 zM) zq9.F q4p:=by delta q4p;rw [<-q2l,<-qbj];kernel_rfl
def q7r (A:Sl qd×q7->G4 (Int×q7)) (B:Wu) (C:zhZ->G4 zM) (x:zdw):G4 Ww:=(A (x.2.1.1,kg x.1)).bind fun a=>(B (decide (0<=a.1),31,x.2)).bind fun b=>elim (fun c=>some (inl c)) (fun c=>(zd c.1.1 a.1).bind fun d=>(C (a.2.K_,d.P_,c)).bind fun e=>elim (fun i=>some (inl i)) (fun i=>(zd i.1.1 a.1).bind fun j=>some (inr (j.R_,i))) e) b
def q1s:zdw->G4 Ww:=q7r q6g q14 q4p
theorem qep:@Eq ((zdw)->G4 Ww) zjK.F q1s:=by delta q1s;rw [<-qkx,<-q2l,<-qiz];kernel_rfl
def q7s (A:zwn) (B:Wu) (C:znt) (x:zdw):G4 znC:=(if decide (x.1.k_=5)=true then if decide (x.1.T_=lit [])=true then some (inl (x.2.1,x.2.2,qf.mk (lit []) 1 0)) else (A (x.1.T_,x.2)).bind fun a=>elim (fun b=>some (inr (inl b))) (fun b=>(if decide (x.1.N_=0)=true then (B (true,40,b.2)).bind fun c=>elim (fun d=>some (inl d)) (fun d=>some (inr (d.1,d.2,qf.mk (lit []) 0 0,b.1))) c else (B (decide (b.1.M_=1),40,b.2)).bind fun d=>elim (fun e=>some (inl e)) (fun e=>some (inr (e.1,e.2,qf.mk (lit []) 0 0,b.1))) d).bind fun c=>elim (fun d=>some (inr (inl d))) (fun d=>some (inl (d.1,d.2.1,d.2.2.2))) c) a else (if decide (x.1.k_=21)=true then some (x.1.k_,decide (x.1.k_=21),x.2.1,x.2.2,kg x.1,qf.mk (lit []) 0 0,qf.mk (lit []) 1 0) else some (x.1.k_,decide (x.1.k_=22),x.2.1,x.2.2,kg x.1,qf.mk (lit []) 0 0,qf.mk (lit []) 1 0)).bind fun b=>(if b.2.1=true then ((zd b.2.2.2.2.1.K_ 0).bind fun c=>(zd b.2.2.2.2.1.K_ 1).bind fun d=>(A (c.T_,b.2.2.1,b.2.2.2.1)).bind fun e=>elim (fun i=>some (inl i)) (fun i=>(A (d.T_,i.2)).bind fun j=>elim (fun l=>some (inl l)) (fun l=>some (inr (l.2.1,l.2.2,b.2.2.2.2.2.1,b.2.2.2.2.2.2,i.1,l.1))) j) e).bind fun c=>elim (fun d=>some (inl d)) (fun d=>(if decide (d.2.2.2.2.1.M_=1)=true then (B (decide (d.2.2.2.2.2.M_=1),40,d.1,d.2.1)).bind fun e=>elim (fun i=>some (inl i)) (fun i=>some (inr (i.1,i.2,d.2.2.1,d.2.2.2.1))) e else (B (false,40,d.1,d.2.1)).bind fun i=>elim (fun j=>some (inl j)) (fun j=>some (inr (j.1,j.2,d.2.2.1,d.2.2.2.1))) i).bind fun e=>elim (fun i=>some (inl i)) (fun i=>some (inr (inl (i.1,i.2.1,i.2.2.2)))) e) c else (if decide (b.1=26)=true then some (b.1,decide (b.1=26),b.2.2.1,b.2.2.2.1,kg b.2.2.2.2.1,b.2.2.2.2.2) else some (b.1,decide (b.1=27),b.2.2.1,b.2.2.2.1,kg b.2.2.2.2.1,b.2.2.2.2.2)).bind fun d=>(if d.2.1=true then (A (d.2.2.2.2.1.T_,d.2.2.1,d.2.2.2.1)).bind fun e=>elim (fun i=>some (inl i)) (fun i=>(B (decide (i.1.M_=2),40,i.2)).bind fun j=>elim (fun l=>some (inl l)) (fun l=>(if decide (d.2.2.2.2.1.k_=27)=true then some (l.1,l.2,d.2.2.2.2.2.1,qf.mk i.1.n_ 4 i.1.t_) else some (l.1,l.2,d.2.2.2.2.2.1,qf.mk i.1.n_ 3 i.1.t_)).bind fun m=>some (inr (inl (m.1,m.2.1,m.2.2.2)))) j) e else (if decide (d.1=28)=true then (C (kg d.2.2.2.2.1,d.2.2.1,d.2.2.2.1)).bind fun i=>elim (fun j=>some (inl j)) (fun j=>(B (decide (j.1.M_≠0),35,j.2)).bind fun l=>elim (fun m=>some (inl m)) (fun m=>some (inr (inl (m.1,m.2,j.1)))) l) i else some (inr (inr (d.2.2.1,d.2.2.2.1,d.2.2.2.2.2)))).bind fun i=>elim (fun j=>some (inl j)) (fun j=>elim (fun l=>some (inr (inl l))) (fun l=>some (inr (inr l))) j) i).bind fun e=>elim (fun i=>some (inl i)) (fun i=>elim (fun j=>some (inr (inl j))) (fun j=>some (inr (inr j))) i) e).bind fun c=>elim (fun d=>some (inr (inl d))) (fun d=>elim (fun e=>some (inl e)) (fun e=>some (inr (inr e))) d) c).bind fun a=>elim (fun b=>some (inl (b.2.2,b.1,b.2.1))) (fun b=>elim (fun c=>some (inr c)) (fun c=>(B (false,50,c.1,c.2.1)).bind fun d=>elim (fun e=>some (inr e)) (fun e=>some (inl (c.2.2.2,e))) d) b) a
def q1z:zdw->G4 znC:=q7s q3i q14 q1s
theorem qj0:@Eq ((zdw)->G4 znC) zm0.F q1z:=by delta q1z;rw [<-qdp,<-q2l,<-qep];kernel_rfl
def q8h (A:zfO) (B:Wu) (x:znW):G4 zM:=(zd x.2.2.2 x.2.2.1.2.2.2).bind fun a=>(zd x.2.2.2 x.2.2.1.2.2.2).bind fun b=>(A (qb.mk a.n_ a.P_ b.V_,x.1)).bind fun c=>if decide (0<=c)=true then (zd x.2.2.2 x.2.2.1.2.2.2).bind fun d=>(zd x.2.2.2 x.2.2.1.2.2.2).bind fun e=>(zd e.V_ c).bind fun i=>(zd x.2.2.2 x.2.2.1.2.2.2).bind fun j=>(zd j.V_ c).bind fun l=>(B (decide (l.n_=x.1) && (decide (l.M_=x.2.1.M_) && (decide (l.t_=x.2.1.t_) && true)),40,x.2.2)).bind fun m=>elim (fun n=>some (inl n)) (fun n=>some (inr n)) m else (zd x.2.2.2 x.2.2.1.2.2.2).bind fun n=>(zd x.2.2.2 x.2.2.1.2.2.2).bind fun o=>(zp 32 o.V_ [qf.mk x.1 x.2.1.M_ x.2.1.t_]).bind fun p=>(zd x.2.2.2 x.2.2.1.2.2.2).bind fun r=>bif decide (x.2.2.1.2.2.2=x.2.2.1.2.2.2) then some (inr (x.2.2.1,Sl.set x.2.2.2 x.2.2.1.2.2.2 (qb.mk r.n_ r.P_ p))) else none
def q2q:znW->G4 zM:=q8h q2d q14
theorem qjn:@Eq ((znW)->G4 zM) zm1.F q2q:=by delta q2q;rw [<-q5y,<-q2l];kernel_rfl
def q8t (x:qb×q7):Gl:=some (decide (x.1.n_=x.2.T_))
def q3o:qb×q7->Gl:=q8t
theorem qgt:@Eq ((qb×q7)->G4 Bool) zm2.F q3o:=by kernel_rfl
def q5j (A:qb×q7->Gl):zoo->G4 (Step zoo ztt):=fun a=>if decide (a.2.1 < a.1)=true then (zd a.2.2.1 a.2.1).bind fun b=>(zd a.2.2.1 a.2.1).bind fun c=>(zd a.2.2.1 a.2.1).bind fun d=>(A (qb.mk c.n_ c.P_ d.V_,kg a.2.2.2)).bind fun e=>if e=true then some (Step.done (inl (a.2.1,a.2.2.1,kg a.2.2.2))) else some (Step.next (a.1,G5 (a.2.1+1),a.2.2.1,kg a.2.2.2)) else some (Step.done (inr (a.2.2.1,kg a.2.2.2)))
def q9g (A:qb×q7->Gl) (x:Sl qb×q7):G4 zfS:=(lpO (q5j A) (Sl.len x.1,0,x.1,kg x.2)).bind fun a=>elim (fun b=>some (b.1,b.2.1,kg b.2.2)) (fun b=>some (-1,b.1,kg b.2)) a
def q35:Sl qb×q7->G4 zfS:=q9g q3o
theorem qko:@Eq ((Sl qb×q7)->G4 zfS) zm3.F q35:=by delta q35;rw [<-qgt];kernel_rfl
def q4r (A:Wu) (B:zeE):znJ->G4 (Step znJ zM):=fun a=>if decide (a.2.2.2.1 < a.2.2.1)=true then (zd a.2.1 a.2.2.2.1).bind fun b=>(zd a.2.2.2.2.2 a.1.1).bind fun c=>(Zu c.V_ a.1.2.1 a.1.2.2).bind fun d=>(zd d a.2.2.2.1).bind fun e=>(zd a.2.2.2.2.2 a.1.1).bind fun i=>(zd i.V_ (a.1.2.1+a.2.2.2.1)).bind fun j=>(B (kg b,j,a.2.2.2.2)).bind fun l=>elim (fun m=>some (Step.done (inl m))) (fun m=>some (Step.next (a.1,a.2.1,a.2.2.1,G5 (a.2.2.2.1+1),m))) l else some (Step.done (inr a.2.2.2.2))
def q67 (A:Wu) (B:zeE) (x:znN):G4 zM:=(zd x.2.2.2 x.2.1.1).bind fun a=>(Zu a.V_ x.2.1.2.1 x.2.1.2.2).bind fun b=>(A (decide (Sl.len x.1=x.2.1.2.2 - x.2.1.2.1),51,x.2.2)).bind fun c=>elim (fun d=>some (inl d)) (fun d=>(lpO (q4r A B) (x.2.1,x.1,Sl.len x.1,0,d)).bind fun e=>elim (fun i=>some (inl i)) (fun i=>some (inr i)) e) c
def q1p:znN->G4 zM:=q67 q14 q1d
theorem qhd:@Eq ((znN)->G4 zM) zm4.F q1p:=by delta q1p;rw [<-q2l,<-qbj];kernel_rfl
def q40 (A:zr7) (B:zr5) (C:znt) (D:zn5) (E:Wu) (G:tA9) (H:zeE) (I:zgI):znH->G4 (Step znH zc2):=fun a=>if decide (a.2.2.2.2.2.1 < a.2.2.2.2.1)=true then (zd a.2.2.2.1 a.2.2.2.2.2.1).bind fun b=>(I (b.K_,a.2.2.2.2.2.2.1,a.2.2.2.2.2.2.2.1)).bind fun c=>elim (fun d=>some (Step.done (inl d))) (fun d=>some (Step.next (a.1,a.2.1,a.2.2.1,a.2.2.2.1,a.2.2.2.2.1,G5 (a.2.2.2.2.2.1+1),d.1,d.2,a.2.2.2.2.2.2.2.2))) c else some (Step.done (inr (a.1,a.2.1,a.2.2.1,a.2.2.2.2.2.2)))
def q1w (A:zr7) (B:zr5) (C:znt) (D:zn5) (E:Wu) (G:tA9) (H:zeE) (I:zgI):wV->G4 (Step wV zM):=fun a=>if decide (a.2.2.1 < a.2.1)=true then (zd a.1 a.2.2.1).bind fun b=>(if decide (b.k_=10)=true then ((zd b.K_ 0).bind fun c=>(A (kg c,(a.2.2.2.1.1,a.2.2.2.1.2.1,b.a_,a.2.2.2.1.2.2.2),a.2.2.2.2.1)).bind fun d=>elim (fun e=>(B (b.T_,e)).bind fun i=>elim (fun j=>some (inl j)) (fun j=>some (inr (a.1,a.2.1,a.2.2.1,j.1,j.2,a.2.2.2.2.2))) i) (fun e=>some (inl e)) d).bind fun c=>elim (fun d=>some (inl d)) (fun d=>some (inr d)) c else (if decide (b.k_=20)=true then (zd b.K_ 0).bind fun d=>(C (kg d,(a.2.2.2.1.1,a.2.2.2.1.2.1,b.a_,a.2.2.2.1.2.2.2),a.2.2.2.2.1)).bind fun e=>elim (fun i=>some (inl i)) (fun i=>some (inr (a.1,a.2.1,a.2.2.1,i.2.1,i.2.2,a.2.2.2.2.2))) e else (if decide (b.k_=19)=true then (D (a.2.2.2.2.1,kg b)).bind fun i=>(E (decide (0<=i.1),31,(a.2.2.2.1.1,a.2.2.2.1.2.1,b.a_,a.2.2.2.1.2.2.2),i.2.1)).bind fun j=>elim (fun l=>some (inl l)) (fun l=>(zd l.2 i.1).bind fun m=>(zd l.2 i.1).bind fun n=>(zd l.2 i.1).bind fun o=>(zd l.2 i.1).bind fun p=>(zd l.2 i.1).bind fun r=>(Zu r.V_ 0 p.P_).bind fun s=>(G (i.2.2.K_,(i.1,0,p.P_),l)).bind fun t=>elim (fun u=>some (inl u)) (fun u=>some (inr (a.1,a.2.1,a.2.2.1,u.1,u.2,a.2.2.2.2.2))) t) j else (if decide (b.k_=15)=true then some (a.1,a.2.1,a.2.2.1,b.k_,decide (b.k_=15),(a.2.2.2.1.1,a.2.2.2.1.2.1,b.a_,a.2.2.2.1.2.2.2),a.2.2.2.2.1,a.2.2.2.2.2,kg b) else some (a.1,a.2.1,a.2.2.1,b.k_,decide (b.k_=16),(a.2.2.2.1.1,a.2.2.2.1.2.1,b.a_,a.2.2.2.1.2.2.2),a.2.2.2.2.1,a.2.2.2.2.2,kg b)).bind fun l=>(if l.2.2.2.2.1=true then (zd l.2.2.2.2.2.2.2.2.K_ 0).bind fun m=>(H (kg m,l.2.2.2.2.2.2.2.1,l.2.2.2.2.2.1,l.2.2.2.2.2.2.1)).bind fun n=>elim (fun o=>some (inl o)) (fun o=>(zd l.2.2.2.2.2.2.2.2.K_ 1).bind fun p=>(H (kg p,l.2.2.2.2.2.2.2.1,o)).bind fun r=>elim (fun s=>some (inl s)) (fun s=>(Zu l.2.2.2.2.2.2.2.2.K_ 2 l.2.2.2.2.2.2.2.2.K_.len).bind fun t=>(lpO (q40 A B C D E G H I) (l.1,l.2.1,l.2.2.1,t,t.len,0,s.1,s.2,l.2.2.2.2.2.2.2.1)).bind fun u=>elim (fun v=>some (inl v)) (fun v=>some (inr v)) u) r) n else (if decide (l.2.2.2.1=17)=true then (E (decide (l.2.2.2.2.2.2.2.2.K_.len=0),35,l.2.2.2.2.2.1,l.2.2.2.2.2.2.1)).bind fun o=>elim (fun p=>some (inl p)) (fun p=>some (inr (l.1,l.2.1,l.2.2.1,p.1,p.2,l.2.2.2.2.2.2.2.1))) o else (if decide (l.2.2.2.1=18)=true then some (inl (l.1,l.2.1,l.2.2.1,l.2.2.2.2.2.1,l.2.2.2.2.2.2.1,l.2.2.2.2.2.2.2.1)) else (E (false,50,l.2.2.2.2.2.1,l.2.2.2.2.2.2.1)).bind fun p=>elim (fun r=>some (inr r)) (fun r=>some (inl (l.1,l.2.1,l.2.2.1,r.1,r.2,l.2.2.2.2.2.2.2.1))) p).bind fun p=>elim (fun r=>some (inr r)) (fun r=>some (inl r)) p).bind fun o=>elim (fun p=>some (inl p)) (fun p=>some (inr p)) o).bind fun m=>elim (fun n=>some (inl n)) (fun n=>some (inr n)) m).bind fun i=>elim (fun j=>some (inl j)) (fun j=>some (inr j)) i).bind fun d=>elim (fun e=>some (inl e)) (fun e=>some (inr e)) d).bind fun c=>elim (fun d=>some (Step.done (inl d))) (fun d=>some (Step.next (d.1,d.2.1,G5 (d.2.2.1+1),d.2.2.2))) c else some (Step.done (inr (a.2.2.2.1,a.2.2.2.2.1)))
def q55 (A:zr7) (B:zr5) (C:znt) (D:zn5) (E:Wu) (G:tA9) (H:zeE) (I:zgI) (x:ztc):G4 zM:=(lpO (q1w A B C D E G H I) (x.1,Sl.len x.1,0,x.2.1,x.2.2,qf.mk (lit []) 1 0)).bind fun a=>elim (fun b=>some (inl b)) (fun b=>some (inr b)) a
def q41 (h:zbS):zbS:=q55 q1z q2q q1s q35 q14 q1p q1d h
theorem qhe (h:zbS):@Eq zbS (zhI h) (q41 h):=by delta q41;rw [<-qj0,<-qjn,<-qep,<-qko,<-q2l,<-qhd,<-qbj];kernel_rfl
def q27:Nat->ztc->G4 zM
  |0=>fun _=>none
  |k+1=>q41 (q27 k)
theorem qck:∀ k,@Eq zbS (zfi k) (q27 k)
  |0=>rfl
  |k+1=>(qhe (zfi k)).trans (congrArg q41 (qck k))
def q33:zbS:=q27 100000
theorem qi5:@Eq zbS zvt q33:=qck 100000
def qd0 (x:q7):G4 q7:=if decide (x.K_.len=0)=true then some (q7.mk 0 (lit []) 0 0 (Sl.mk [] false)) else (zd x.K_ 0).bind fun a=>some (kg a)
def q8r:ziH:=qd0
theorem qlg:@Eq ziH zjL.F q8r:=by kernel_rfl
def qgk (x:q7):G4 qt:=some (qt.mk x.T_ x.N_)
def q8o:zb0:=qgk
theorem qhf:@Eq zb0 zgs.F q8o:=by kernel_rfl
def qfo (A:zb0) (x:q7×Int):G4 qt:=if decide (x.1.K_.len<=x.2)=true then some (qt.mk (lit []) 0) else (zd x.1.K_ x.2).bind fun a=>(A (kg a)).bind fun b=>some b
def q2y:zop:=qfo q8o
theorem qj1:@Eq ((q7×Int)->G4 qt) zet.F q2y:=by delta q2y;rw [<-qhf];kernel_rfl
def qbq (A:zb0):zoh->G4 (Step zoh (Sl qt)):=fun a=>if decide (a.2.2.1 < a.2.1)=true then (zd a.1 a.2.2.1).bind fun b=>(A (kg b)).bind fun c=>(zp 24 a.2.2.2 [c]).bind fun d=>some (Step.next (a.1,a.2.1,G5 (a.2.2.1+1),d)) else some (Step.done a.2.2.2)
def qgl (A:zb0) (x:q7):G4 (Sl qt):=(lpO (qbq A) (x.K_,x.K_.len,0,Sl.mk [] false)).bind fun a=>some a
def q9r:ziu:=qgl q8o
theorem qkv:@Eq ziu zjM.F q9r:=by delta q9r;rw [<-qhf];kernel_rfl
def qa2 (x:qi×Sl qi):G4 vq:=(zp 136 x.2 [x.1]).bind fun a=>some (G5 (a.len - 1),a)
def q2f:qi×Sl qi->G4 vq:=qa2
theorem qb4:@Eq ((qi×Sl qi)->G4 vq) zbx.F q2f:=by kernel_rfl
def qa3 (A:zop) (B:ziu) (C:zb0) (D:zfM) (x:ziC):G4 (Sl qi):=(if decide (x.2.1.k_=21)=true then some (x.2.1.k_,decide (x.2.1.k_=21),x.2.2,kg x.2.1,0,x.1.a_,x.1.T_,lit [],lit [],0,lit [],0,0,false) else some (x.2.1.k_,decide (x.2.1.k_=22),x.2.2,kg x.2.1,0,x.1.a_,x.1.T_,lit [],lit [],0,lit [],0,0,false)).bind fun a=>(if a.2.1=true then (A (kg a.2.2.2.1,0)).bind fun b=>(A (kg a.2.2.2.1,1)).bind fun c=>some (a.2.2.1,(G5 (1+G5 (a.2.2.2.1.k_ - 21)),a.2.2.2.2.2.1,a.2.2.2.2.2.2.1,a.2.2.2.2.2.2.2.1,b.n_,b.N_,c.n_,c.N_,a.2.2.2.2.2.2.2.2.2.2.2.2),Sl.mk [] false) else (if decide (a.1=23)=true then some (a.2.2.1,(3,a.2.2.2.2.2.1,a.2.2.2.2.2.2.1,a.2.2.2.2.2.2.2.1,lit [],a.2.2.2.1.N_,a.2.2.2.2.2.2.2.2.2.2),Sl.mk [] false) else (if decide (a.1=24)=true then some (a.2.2.1,(4,a.2.2.2.2.2.1,a.2.2.2.2.2.2.1,a.2.2.2.2.2.2.2.1,a.2.2.2.1.T_,0,a.2.2.2.2.2.2.2.2.2.2),Sl.mk [] false) else (if decide (a.1=25)=true then (A (kg a.2.2.2.1,0)).bind fun d=>some (a.2.2.1,(5,a.2.2.2.2.2.1,a.2.2.2.2.2.2.1,a.2.2.2.1.T_,d.n_,d.N_,a.2.2.2.2.2.2.2.2.2.2),Sl.mk [] false) else (if decide (a.1=28)=true then (B (kg a.2.2.2.1)).bind fun e=>some (a.2.2.1,(12,a.2.2.2.2.2.1,a.2.2.2.2.2.2.1,a.2.2.2.1.T_,a.2.2.2.2.2.2.2.2),e) else (if decide (a.1=26)=true then some (decide (a.1=26),a.2.2.1,kg a.2.2.2.1,a.2.2.2.2) else some (decide (a.1=27),a.2.2.1,kg a.2.2.2.1,a.2.2.2.2)).bind fun i=>(if i.1=true then some (i.2.1,i.2.2.2.1,i.2.2.2.2.1,i.2.2.2.2.2.1,i.2.2.2.2.2.2.1,i.2.2.1.T_,0,i.2.2.2.2.2.2.2.2.2) else (C (kg i.2.2.1)).bind fun j=>some (i.2.1,i.2.2.2.1,i.2.2.2.2.1,i.2.2.2.2.2.1,i.2.2.2.2.2.2.1,j.n_,j.N_,i.2.2.2.2.2.2.2.2.2)).bind fun j=>some (j.1,j.2,Sl.mk [] false)).bind fun e=>some e).bind fun d=>some d).bind fun d=>some d).bind fun d=>some d).bind fun b=>(D (qi.mk b.2.1.1 b.2.1.2.1 b.2.1.2.2.1 b.2.1.2.2.2.1 (qt.mk b.2.1.2.2.2.2.1 b.2.1.2.2.2.2.2.1) (qt.mk b.2.1.2.2.2.2.2.2.1 b.2.1.2.2.2.2.2.2.2.1) b.2.2 b.2.1.2.2.2.2.2.2.2.2.1 b.2.1.2.2.2.2.2.2.2.2.2,b.1)).bind fun c=>some c.2
def q57:ziC->G4 (Sl qi):=qa3 q2y q9r q8o q2f
theorem qky:@Eq ((ziC)->G4 (Sl qi)) zm7.F q57:=by delta q57;rw [<-qj1,<-qkv,<-qhf,<-qb4];kernel_rfl
def q3r (A:zop) (B:zfM) (C:zdE) (x:q7×Sl qi):G4 (Sl qi):=if decide (x.1.K_.len < 3)=true then some x.2 else (A (kg x.1,0)).bind fun a=>(A (kg x.1,1)).bind fun b=>(B (qi.mk 10 x.1.a_ x.1.T_ (lit []) a b (Sl.mk [] false) 0 false,x.2)).bind fun c=>(zd x.1.K_ 2).bind fun d=>(C (kg d,c.2)).bind fun e=>(B (qi.mk 11 x.1.a_ (lit []) (lit []) (qt.mk (lit []) 0) (qt.mk (lit []) 0) (Sl.mk [] false) c.1 false,e)).bind fun i=>(zd i.2 c.1).bind fun j=>(zd i.2 c.1).bind fun l=>(if decide (x.1.k_=15)=true then some (i.1,decide (3 < x.1.K_.len),kg x.1,Sl.set i.2 c.1 (qi.mk l.O_ l.a_ l.X_ l.Y_ l.A_ l.B_ l.W_ (Sl.len i.2) l.H_)) else some (i.1,false,kg x.1,Sl.set i.2 c.1 (qi.mk l.O_ l.a_ l.X_ l.Y_ l.A_ l.B_ l.W_ (Sl.len i.2) l.H_))).bind fun m=>(if m.2.1=true then (zd m.2.2.1.K_ 3).bind fun n=>(C (kg n,m.2.2.2)).bind fun o=>(zd o m.1).bind fun p=>(zd o m.1).bind fun r=>some (o.set m.1 (qi.mk r.O_ r.a_ r.X_ r.Y_ r.A_ r.B_ r.W_ o.len r.H_)) else some m.2.2.2).bind fun n=>some n
def q29 (h:yy):yy:=q3r q2y q2f h
theorem qeq (h:yy):@Eq yy (zhJ h) (q29 h):=by delta q29;rw [<-qj1,<-qb4];kernel_rfl
def q4d (A:ziH) (B:ziC->G4 (Sl qi)) (C:zdE) (D:zop) (E:ziu) (G:zfM) (x:q7×Sl qi):G4 (Sl qi):=(if decide (x.1.k_=10)=true then (A (kg x.1)).bind fun a=>(B (kg x.1,kg a,x.2)).bind fun b=>some (inl b) else (if decide (x.1.k_=15)=true then some (x.1.k_,decide (x.1.k_=15),x.2,kg x.1,0,x.1.a_,lit [],x.1.T_,lit [],0,lit [],0,0,false) else some (x.1.k_,decide (x.1.k_=16),x.2,kg x.1,0,x.1.a_,lit [],x.1.T_,lit [],0,lit [],0,0,false)).bind fun (c:zwC)=>if c.2.1=true then (C (kg c.2.2.2.1,c.2.2.1)).bind fun d=>some (inl d) else (if decide (c.1=11)=true then (D (kg c.2.2.2.1,0)).bind fun e=>(D (kg c.2.2.2.1,1)).bind fun i=>some (c.2.2.1,(6,c.2.2.2.2.2.1,c.2.2.2.2.2.2.1,c.2.2.2.2.2.2.2.1,e.n_,e.N_,i.n_,i.N_,c.2.2.2.2.2.2.2.2.2.2.2.2),Sl.mk [] false) else (if decide (c.1=12)=true then some (c.2.2.1,(7,c.2.2.2.2.2),Sl.mk [] false) else (if decide (c.1=13)=true then some (c.2.2.1,(8,c.2.2.2.2.2.1,c.2.2.2.2.2.2.1,c.2.2.2.2.2.2.2.1,lit [],c.2.2.2.1.N_,c.2.2.2.2.2.2.2.2.2.2),Sl.mk [] false) else (if decide (c.1=14)=true then some (c.2.2.1,(9,c.2.2.2.2.2.1,c.2.2.2.2.2.2.1,c.2.2.2.2.2.2.2.1,lit [],c.2.2.2.1.N_,c.2.2.2.2.2.2.2.2.2.2),Sl.mk [] false) else (if decide (c.1=20)=true then (A (kg c.2.2.2.1)).bind fun j=>(A (kg c.2.2.2.1)).bind fun l=>(E (kg l)).bind fun m=>some (c.2.2.1,(12,c.2.2.2.2.2.1,c.2.2.2.2.2.2.1,j.T_,c.2.2.2.2.2.2.2.2),m) else (if decide (c.1=19)=true then (E (kg c.2.2.2.1)).bind fun n=>some (c.2.2.1,(13,c.2.2.2.2.2),n) else (if decide (c.1=17)=true then (D (kg c.2.2.2.1,0)).bind fun o=>some (c.2.2.1,14,c.2.2.2.2.2.1,c.2.2.2.2.2.2.1,lit [],o.n_,o.N_,c.2.2.2.2.2.2.2.2.2.2.1,c.2.2.2.2.2.2.2.2.2.2.2.1,c.2.2.2.2.2.2.2.2.2.2.2.2.1,decide (0 < c.2.2.2.1.K_.len)) else some (c.2.2.1,15,c.2.2.2.2.2.1,c.2.2.2.2.2.2.1,lit [],c.2.2.2.2.2.2.2.2)).bind fun (o:zwH)=>some (o.1,o.2,Sl.mk [] false)).bind fun (n:W4)=>some n).bind fun (j:W4)=>some j).bind fun (j:W4)=>some j).bind fun (j:W4)=>some j).bind fun (j:W4)=>some j).bind fun (e:W4)=>some (inr e)).bind fun (a:Sl qi⊕Sl qi×(Int×Int×G1×G1×G1×Int×G1×Int×Int×Bool)×Sl qt)=>elim (fun b=>some b) (fun b=>(G (qi.mk b.2.1.1 b.2.1.2.1 b.2.1.2.2.1 b.2.1.2.2.2.1 (qt.mk b.2.1.2.2.2.2.1 b.2.1.2.2.2.2.2.1) (qt.mk b.2.1.2.2.2.2.2.2.1 b.2.1.2.2.2.2.2.2.2.1) b.2.2 b.2.1.2.2.2.2.2.2.2.2.1 b.2.1.2.2.2.2.2.2.2.2.2,b.1)).bind fun c=>some c.2) a
def q1u (h:yy):yy:=q4d q8r q57 (q29 h) q2y q9r q2f
theorem qfq (h:yy):@Eq yy (zhK h) (q1u h):=by delta q1u;rw [<-qlg,<-qky,<-qeq h,<-qj1,<-qkv,<-qb4];kernel_rfl
def q6d (A:zdE):zoi->G4 (Step zoi (Sl qi)):=fun a=>if decide (a.2.2.1 < a.2.1)=true then (zd a.1 a.2.2.1).bind fun b=>(A (kg b,a.2.2.2)).bind fun c=>some (Step.next (a.1,a.2.1,G5 (a.2.2.1+1),c)) else some (Step.done a.2.2.2)
def q6e (A:zdE) (x:q7×Sl qi):G4 (Sl qi):=(lpO (q6d A) (x.1.K_,x.1.K_.len,0,x.2)).bind fun a=>some a
def q4z (h:yy):yy:=q6e (q1u h)
theorem qjo (h:yy):@Eq yy (zhL h) (q4z h):=by delta q4z;rw [<-qfq h];kernel_rfl
def q2c:Nat->(q7×Sl qi)->G4 (Sl qi)
  |0=>fun _=>none
  |k+1=>q4z (q2c k)
theorem q90:∀ k,@Eq yy (zfk k) (q2c k)
  |0=>rfl
  |k+1=>(qjo (zfk k)).trans (congrArg q4z (q90 k))
def q77:yy:=q2c 100000
theorem qk7:@Eq yy zvz q77:=q90 100000
def qb9 (A:zdE) (B:zfM):zfH->G4 (Step zfH ztb):=fun a=>if decide (a.2.2.1 < a.2.1)=true then (zd a.1 a.2.2.1).bind fun b=>(if decide (b.k_=7)=true then (zp 16 a.2.2.2.2.2.1 [b.T_]).bind fun c=>some (a.1,a.2.1,a.2.2.1,a.2.2.2.1,a.2.2.2.2.1,c,a.2.2.2.2.2.2) else (if decide (b.k_=9)=true then (A (kg b,a.2.2.2.2.2.2)).bind fun d=>(B (qi.mk 14 b.a_ (lit []) (lit []) (qt.mk (lit []) 0) (qt.mk (lit []) 0) (Sl.mk [] false) 0 false,d)).bind fun e=>some (a.1,a.2.1,a.2.2.1,a.2.2.2.1,a.2.2.2.2.1,a.2.2.2.2.2.1,e.2) else some a).bind fun d=>some d).bind fun c=>some (Step.next (c.1,c.2.1,G5 (c.2.2.1+1),c.2.2.2)) else some (Step.done a.2.2.2)
def qd1 (A:zdE) (B:zfM) (x:q7):G4 q1h:=if decide (x.k_≠6)=true then some (q1h.mk (lit []) (Sl.mk [] false) (Sl.mk [] false)) else (lpO (qb9 A B) (x.K_,x.K_.len,0,lit [],x.T_,Sl.mk [] false,Sl.mk [] false)).bind fun a=>some (q1h.mk a.2.1 a.2.2.1 a.2.2.2)
def q5u:zfT:=qd1 q77 q2f
theorem qk8:@Eq zfT zrg.F q5u:=by delta q5u;rw [<-qk7,<-qb4];kernel_rfl
def q8k (A:Wu) (x:znR):G4 zM:=(A (x.2.1,x.2.2.1,(x.2.2.2.1.1,x.2.2.2.1.2.1,x.1.a_,x.2.2.2.1.2.2.2),x.2.2.2.2)).bind fun a=>elim (fun b=>some (inl b)) (fun b=>some (inr b)) a
def q2x:znR->G4 zM:=q8k q14
theorem qgp:@Eq ((znR)->G4 zM) zrh.F q2x:=by delta q2x;rw [<-q2l];kernel_rfl
def qb0 (x:zij):G4 yz:=some (x.1.1,x.1.2,x.2.2.2)
def q4y:zij->G4 yz:=qb0
theorem qjq:@Eq ((zij)->G4 yz) zrk q4y:=by kernel_rfl
def q9w (x:yz):G4 yz:=some x
def q4a:yz->G4 yz:=q9w
theorem qi6:@Eq ((yz)->G4 yz) zrn q4a:=by kernel_rfl
def q5k (A:zkv) (B:zr6) (C:znO) (D:zgI) (E:zfT) (G:zr4) (H:zn1):VT->G4 (Step VT zhV):=fun a=>if decide (a.2.2.1 < a.2.1)=true then ((zd a.1 a.2.2.1).bind fun b=>(A (kg b,decide (b.k_=6),50,a.2.2.2.2.2.2)).bind fun c=>elim (fun d=>some (inl (d.1,kg a.2.2.2.1,a.2.2.2.2.1,a.2.2.2.2.2.1))) (fun d=>(yM ((B (kg b,d)).bind fun e=>elim (fun i=>some (inl (i.1,kg a.2.2.2.1,a.2.2.2.2.1,a.2.2.2.2.2.1))) (fun i=>(zp 48 i.2.2.1 [qb.mk i.1.1 i.1.2 i.2.2.2]).bind fun j=>some (inr (a.1,a.2.1,a.2.2.1,kg a.2.2.2.1,a.2.2.2.2.1,a.2.2.2.2.2.1,i.2.1,j))) e) ((B (kg b,d)).bind fun e=>elim (fun i=>some (inl (i.1,kg a.2.2.2.1,a.2.2.2.2.1,a.2.2.2.2.2.1))) (fun i=>yM ((zp 48 i.2.2.1 [qb.mk i.1.1 i.1.2 i.2.2.2]).bind fun j=>some (inr (a.1,a.2.1,a.2.2.1,kg a.2.2.2.1,a.2.2.2.2.1,a.2.2.2.2.2.1,i.2.1,j))) ((zp 48 i.2.2.1 [qb.mk i.1.1 i.1.2 i.2.2.2]).bind fun j=>some (inr (a.1,a.2.1,a.2.2.1,kg a.2.2.2.1,a.2.2.2.2.1,a.2.2.2.2.2.1,i.2.1,j)))) e)).bind fun e=>elim (fun i=>some (inl (i.1,kg i.2.1,i.2.2))) (fun i=>some (inr (i.1,i.2.1,i.2.2.1,kg i.2.2.2.1,i.2.2.2.2))) e) c).bind fun b=>elim (fun c=>some (Step.done (inl (c.1,kg c.2.1,c.2.2)))) (fun c=>some (Step.next (c.1,c.2.1,G5 (c.2.2.1+1),kg c.2.2.2.1,c.2.2.2.2))) b else some (Step.done (inr (kg a.2.2.2.1,a.2.2.2.2)))
def q5l (A:zkv) (B:zr6) (C:znO) (D:zgI) (E:zfT) (G:zr4) (H:zn1):VT->G4 (Step VT zhV):=fun a=>if decide (a.2.2.1 < a.2.1)=true then ((zd a.1 a.2.2.1).bind fun b=>(zd a.2.2.2.2.2.2.2 a.2.2.1).bind fun c=>(zd b.K_ (G5 (b.K_.len - 1))).bind fun d=>(D (d.K_,(a.2.2.2.2.2.2.1.1,a.2.2.2.2.2.2.1.2.1,a.2.2.2.2.2.2.1.2.2,a.2.2.1),a.2.2.2.2.2.2.2)).bind fun e=>elim (fun i=>some (inl (i.1,kg a.2.2.2.1,a.2.2.2.2.1,a.2.2.2.2.2.1))) (fun i=>((zd i.2 i.1.2.2.2).bind fun j=>(zd i.2 i.1.2.2.2).bind fun l=>if decide (l.V_.len<=64)=true then (E (kg b)).bind fun m=>(G (kg b,decide (m.L_.len<=512),22,i)).bind fun n=>elim (fun o=>some (inl (o.1,kg a.2.2.2.1,a.2.2.2.2.1,a.2.2.2.2.2.1))) (fun o=>some (inr (a.1,a.2.1,a.2.2.1,kg a.2.2.2.1,a.2.2.2.2.1,a.2.2.2.2.2.1,o))) n else (G (kg b,false,22,i)).bind fun o=>elim (fun p=>some (inl (p.1,kg a.2.2.2.1,a.2.2.2.2.1,a.2.2.2.2.2.1))) (fun p=>some (inr (a.1,a.2.1,a.2.2.1,kg a.2.2.2.1,a.2.2.2.2.1,a.2.2.2.2.2.1,p))) o).bind fun j=>elim (fun l=>some (inl (l.1,kg l.2.1,l.2.2))) (fun l=>some (inr (l.1,l.2.1,l.2.2.1,kg l.2.2.2.1,l.2.2.2.2))) j) e).bind fun b=>elim (fun c=>some (Step.done (inl (c.1,kg c.2.1,c.2.2)))) (fun c=>some (Step.next (c.1,c.2.1,G5 (c.2.2.1+1),kg c.2.2.2.1,c.2.2.2.2.1,c.2.2.2.2.2.1,(c.2.2.2.2.2.2.1.1,c.2.2.2.2.2.2.1.2.1,c.2.2.2.2.2.2.1.2.2.1),c.2.2.2.2.2.2.2))) b else some (Step.done (inr (kg a.2.2.2.1,a.2.2.2.2)))
def qby (A:zkv) (B:zr6) (C:znO) (D:zgI) (E:zfT) (G:zr4) (H:zn1) (x:zor):G4 yz:=(lpO (q5k A B C D E G H) (x.1.K_,x.1.K_.len,0,kg x.1,0,0,(x.2.1,x.2.2,0),Sl.mk [] false)).bind fun a=>elim (fun b=>(C (b.1,b.2.2.1,b.2.2.2,Sl.mk [] false)).bind fun c=>some (c.1,c.2.1,Sl.mk [] false)) (fun b=>(lpO (q5l A B C D E G H) (b.1.K_,b.1.K_.len,0,kg b.1,b.2)).bind fun c=>elim (fun d=>(C (d.1,d.2.2.1,d.2.2.2,Sl.mk [] false)).bind fun e=>some (e.1,e.2.1,Sl.mk [] false)) (fun d=>(H (0,0,d.2.2.2.2)).bind fun e=>some e) c) a
def q2g:zor->G4 yz:=qby q1v q2u q4y q33 q5u q2x q4a
theorem qd2:@Eq ((zor)->G4 yz) zvG q2g:=by delta q2g;rw [<-qcj,<-qiy,<-qjq,<-qi5,<-qk8,<-qgp,<-qi6];kernel_rfl
def q9x (A:zdA) (B:V2) (C:zh2) (D:zfO) (x:Unit):Gl:=(A (lit [116,121,112,101,32,118,101,99,32,111,119,110,32,123,32,110,32,125,59,32,102,110,32,118,101,99,95,110,101,119,40,110,58,32,105,110,116,41,32,45,62,32,111,119,110,32,118,101,99,32,123,32,125,32,102,110,32,118,101,99,95,103,101,116,40,118,58,32,38,118,101,99,44,32,105,58,32,105,110,116,41,32,45,62,32,105,110,116,32,123,32,125])).bind fun a=>(B (lit [102,110,32,109,97,105,110,40,41,32,123,32,118,32,61,32,118,101,99,95,110,101,119,40,51,41,59,32,114,32,61,32,38,118,59,32,120,32,61,32,118,101,99,95,103,101,116,40,114,44,32,48,41,59,32,125])).bind fun b=>(B (lit [102,110,32,109,97,105,110,40,41,32,123,32,112,32,61,32,110,101,119,32,49,59,32,125])).bind fun c=>(if (!a.2)=true then some (true,a.1,kg b.1,kg c.1) else if decide (b.2.2≠0)=true then some (true,a.1,kg b.1,kg c.1) else some (decide (c.2.2≠0),a.1,kg b.1,kg c.1)).bind fun d=>if d.1=true then some false else (C (kg d.2.2.1,d.2.1.S_,d.2.1.Z_)).bind fun e=>(C (kg d.2.2.2,d.2.1.S_,d.2.1.Z_)).bind fun i=>(if decide (e.2.1=0)=true then if decide (Sl.len e.2.2=1)=true then (zd e.2.2 0).bind fun j=>(zd e.2.2 0).bind fun l=>(zd e.2.2 0).bind fun m=>if decide (m.V_.len=3)=true then (zd e.2.2 0).bind fun n=>(zd e.2.2 0).bind fun o=>(zd e.2.2 0).bind fun p=>(zd p.V_ 1).bind fun r=>(zd e.2.2 0).bind fun s=>(zd s.V_ 1).bind fun t=>if (decide (t.n_=lit [114]) && (decide (t.M_=3) && (decide (t.t_=0) && true)))=true then (zd e.2.2 0).bind fun u=>(zd e.2.2 0).bind fun v=>(zd e.2.2 0).bind fun w=>(D (qb.mk v.n_ v.P_ w.V_,lit [120])).bind fun z=>if decide (z=2)=true then (zd e.2.2 0).bind fun E=>(zd e.2.2 0).bind fun G=>(zd e.2.2 0).bind fun H=>(D (qb.mk G.n_ G.P_ H.V_,lit [121])).bind fun I=>if decide (I = -1)=true then if decide (i.2.1=50)=true then some (decide (i.1=12)) else some false else some false else some false else some false else some false else some false else some false).bind fun j=>some j
def q1e:zfR:=q9x q1c q1o q2g q2d
theorem qdq:@Eq zfR zrr.F q1e:=by delta q1e;rw [<-q97,<-q8p,<-qd2,<-q5y];kernel_rfl
def q5m (A:zku):zsn->G4 (Step zsn zwq):=fun a=>if decide (a.2.2.1 < a.2.1)=true then (zd a.1 a.2.2.1).bind fun b=>(A (kg b,a.2.2.2)).bind fun c=>if (!c.1)=true then some (Step.done (inl (false,c.2))) else some (Step.next (a.1,a.2.1,G5 (a.2.2.1+1),c.2)) else some (Step.done (inr a.2.2.2))
def q4c (A:zku) (x:zhX):G4 vm:=(if decide (x.1.k_=11)=true then some (x.1.k_,decide (x.1.k_=11),x.2.1,x.2.2,kg x.1) else (if decide (x.1.k_=12)=true then some (x.1.k_,decide (x.1.k_=12),x.2.1,x.2.2,kg x.1) else (if decide (x.1.k_=13)=true then some (x.1.k_,decide (x.1.k_=13),x.2.1,x.2.2,kg x.1) else (if decide (x.1.k_=14)=true then some (x.1.k_,decide (x.1.k_=14),x.2.1,x.2.2,kg x.1) else (if decide (x.1.k_=23)=true then some (x.1.k_,decide (x.1.k_=23),x.2.1,x.2.2,kg x.1) else (if decide (x.1.k_=24)=true then some (x.1.k_,decide (x.1.k_=24),x.2.1,x.2.2,kg x.1) else (if decide (x.1.k_=25)=true then some (x.1.k_,decide (x.1.k_=25),x.2.1,x.2.2,kg x.1) else some (x.1.k_,decide (x.1.k_=1),x.2.1,x.2.2,kg x.1)).bind fun a=>some (a.1,a.2.1,a.2.2.1,a.2.2.2.1,kg a.2.2.2.2)).bind fun a=>some (a.1,a.2.1,a.2.2.1,a.2.2.2.1,kg a.2.2.2.2)).bind fun a=>some (a.1,a.2.1,a.2.2.1,a.2.2.2.1,kg a.2.2.2.2)).bind fun a=>some (a.1,a.2.1,a.2.2.1,a.2.2.2.1,kg a.2.2.2.2)).bind fun a=>some (a.1,a.2.1,a.2.2.1,a.2.2.2.1,kg a.2.2.2.2)).bind fun a=>some (a.1,a.2.1,a.2.2.1,a.2.2.2.1,kg a.2.2.2.2)).bind fun a=>(if a.2.1=true then some (inl (false,a.2.2.1,a.2.2.2.1)) else (if decide (a.1=28)=true then if decide (ZR a.2.2.2.2.T_ a.2.2.2.1.2.xs=0)=true then some (inl (false,a.2.2.1,a.2.2.2.1)) else some (inr (a.2.2.1,a.2.2.2.1,kg a.2.2.2.2)) else (if decide (a.1=19)=true then if decide (ZR a.2.2.2.2.T_ a.2.2.1.2.xs=0)=true then some (inl (false,a.2.2.1,a.2.2.2.1)) else some (inr (a.2.2.1,a.2.2.2.1,kg a.2.2.2.2)) else (if decide (a.1=17)=true then if decide (0 < a.2.2.2.2.K_.len)=true then some (inl (false,a.2.2.1,a.2.2.2.1)) else some (inr (a.2.2.1,a.2.2.2.1,kg a.2.2.2.2)) else some (inr (a.2.2.1,a.2.2.2.1,kg a.2.2.2.2))).bind fun b=>elim (fun c=>some (inl c)) (fun c=>some (inr (c.1,c.2.1,kg c.2.2))) b).bind fun b=>elim (fun c=>some (inl c)) (fun c=>some (inr (c.1,c.2.1,kg c.2.2))) b).bind fun b=>elim (fun c=>some (inl c)) (fun c=>some (inr (c.1,c.2.1,kg c.2.2))) b).bind fun b=>elim (fun c=>some c) (fun c=>(lpO (q5m A) (c.2.2.K_,c.2.2.K_.len,0,c.1,c.2.1)).bind fun d=>elim (fun e=>some e) (fun e=>some (true,e)) d) b
def q7x (h:tA8):tA8:=q4c h
theorem qi7 (h:tA8):@Eq tA8 (zhM h) (q7x h):=by kernel_rfl
def q4b:Nat->zhX->G4 vm
  |0=>fun _=>none
  |k+1=>q7x (q4b k)
theorem qdr:∀ k,@Eq tA8 (zfl k) (q4b k)
  |0=>rfl
  |k+1=>(qi7 (zfl k)).trans (congrArg q7x (qdr k))
def q3s:tA8:=q4b 100000
theorem qj2:@Eq tA8 zvJ q3s:=qdr 100000
def q3u (A:zdA) (B:V2) (C:zfR) (D:zh2) (E:zku):zsi->G4 (Step zsi zwJ):=fun a=>if decide (a.2.2.1 < a.2.1)=true then (zd a.1 a.2.2.1).bind fun b=>if decide (b.k_≠6)=true then some (Step.done (inl false)) else some (Step.next (a.1,a.2.1,G5 (a.2.2.1+1),a.2.2.2.1,kg a.2.2.2.2.1,(a.2.2.2.2.2.1.1,Sl.mk (xU b.T_ (G5 (ZR b.T_ a.2.2.2.2.2.1.2.xs+1)) a.2.2.2.2.2.1.2.xs) true),a.2.2.2.2.2.2)) else some (Step.done (inr (a.2.2.2.1,kg a.2.2.2.2.1,a.2.2.2.2.2)))
def q3v (A:zdA) (B:V2) (C:zfR) (D:zh2) (E:zku):zsk->G4 (Step zsk zhX):=fun a=>if decide (a.2.2.1 < a.2.1)=true then (zd a.1 a.2.2.1).bind fun b=>some (Step.next (a.1,a.2.1,G5 (a.2.2.1+1),kg a.2.2.2.1,a.2.2.2.2.1,a.2.2.2.2.2.1,Sl.mk (xU b.n_ (G5 (ZR b.n_ a.2.2.2.2.2.2.xs+1)) a.2.2.2.2.2.2.xs) true)) else some (Step.done (kg a.2.2.2.1,a.2.2.2.2))
def q85 (A:zdA) (B:V2) (C:zfR) (D:zh2) (E:zku) (x:WH):Gl:=(A x.1).bind fun a=>(B x.2).bind fun b=>((C ()).bind fun c=>if (!c)=true then some (true,a.1,kg b.1) else if (!a.2)=true then some (true,a.1,kg b.1) else some (decide (b.2.2≠0),a.1,kg b.1)).bind fun c=>if c.1=true then (C ()).bind fun d=>some d else (D (kg c.2.2,c.2.1.S_,c.2.1.Z_)).bind fun e=>if decide (e.2.1≠0)=true then some true else (lpO (q3u A B C D E) (c.2.2.K_,c.2.2.K_.len,0,c.2.1,kg c.2.2,(lit [],Sl.mk [] true),lit [],Sl.mk [] true)).bind fun i=>elim (fun j=>some j) (fun j=>(lpO (q3v A B C D E) (j.1.S_,j.1.S_.len,0,kg j.2.1,j.2.2)).bind fun l=>(E (kg l.1,l.2)).bind fun m=>some m.1) i
def q8i:WH->Gl:=q85 q1c q1o q1e q2g q3s
theorem qgf:@Eq ((WH)->G4 Bool) zgt.F q8i:=by delta q8i;rw [<-q97,<-q8p,<-qdq,<-qd2,<-qj2];kernel_rfl
def qfa (x:q6):G4 ql:=some (ql.mk x.T_ x.N_)
def q24:vp:=qfa
def q6m (A:vp):zoq->G4 (Step zoq (Sl ql)):=fun a=>if decide (a.2.1 < Sl.len a.1)=true then (zd a.1 a.2.1).bind fun b=>(A (kr b)).bind fun c=>(zp 24 a.2.2 [c]).bind fun d=>some (Step.next (a.1,G5 (a.2.1+1),d)) else some (Step.done a.2.2)
def qco (A:vp) (x:Ge):G4 (Sl ql):=(lpO (q6m A) (x,0,Sl.mk [] false)).bind fun a=>some a
def q7o:Ge->G4 (Sl ql):=qco q24
def qav (A:vp) (B:Ge->G4 (Sl ql)) (x:q6):G4 znD:=(zd x.K_ 0).bind fun a=>(if decide (a.k_=26)=true then some (a.k_,decide (a.k_=26),(0,0,lit [],lit [],lit [],0,lit [],0,0,false),kr a,0,x.a_,x.T_,lit [],a.T_,a.N_,lit [],0,0,false) else some (a.k_,decide (a.k_=27),(0,0,lit [],lit [],lit [],0,lit [],0,0,false),kr a,0,x.a_,x.T_,lit [],a.T_,a.N_,lit [],0,0,false)).bind fun (b:Int×Bool×(Int×Int×G1×G1×G1×Int×G1×Int×Int×Bool)×q6×Int×Int×G1×G1×G1×Int×G1×Int×Int×Bool)=>(if b.2.1=true then some (b.2.2.1,(b.2.2.2.2.1,b.2.2.2.2.2.1,b.2.2.2.2.2.2.1,b.2.2.2.2.2.2.2.1,b.2.2.2.1.T_,0,b.2.2.2.2.2.2.2.2.2.2),Sl.mk [] false) else (if decide (b.1=21)=true then (zd b.2.2.2.1.K_ 0).bind fun c=>(A (kr c)).bind fun d=>(zd b.2.2.2.1.K_ 1).bind fun e=>(A (kr e)).bind fun i=>some (b.2.2.1,(1,b.2.2.2.2.2.1,b.2.2.2.2.2.2.1,b.2.2.2.2.2.2.2.1,d.n_,d.N_,i.n_,i.N_,b.2.2.2.2.2.2.2.2.2.2.2.2),Sl.mk [] false) else (if decide (b.1=22)=true then (zd b.2.2.2.1.K_ 0).bind fun j=>(A (kr j)).bind fun l=>(zd b.2.2.2.1.K_ 1).bind fun m=>(A (kr m)).bind fun n=>some (b.2.2.1,(2,b.2.2.2.2.2.1,b.2.2.2.2.2.2.1,b.2.2.2.2.2.2.2.1,l.n_,l.N_,n.n_,n.N_,b.2.2.2.2.2.2.2.2.2.2.2.2),Sl.mk [] false) else (if decide (b.1=23)=true then some (b.2.2.1,(3,b.2.2.2.2.2.1,b.2.2.2.2.2.2.1,b.2.2.2.2.2.2.2.1,lit [],b.2.2.2.1.N_,b.2.2.2.2.2.2.2.2.2.2),Sl.mk [] false) else (if decide (b.1=24)=true then some (b.2.2.1,(4,b.2.2.2.2.2.1,b.2.2.2.2.2.2.1,b.2.2.2.2.2.2.2.1,b.2.2.2.1.T_,0,b.2.2.2.2.2.2.2.2.2.2),Sl.mk [] false) else (if decide (b.1=25)=true then (zd b.2.2.2.1.K_ 0).bind fun o=>(A (kr o)).bind fun p=>some (b.2.2.1,(5,b.2.2.2.2.2.1,b.2.2.2.2.2.2.1,b.2.2.2.1.T_,p.n_,p.N_,b.2.2.2.2.2.2.2.2.2.2),Sl.mk [] false) else (if decide (b.1=28)=true then (B b.2.2.2.1.K_).bind fun r=>some (b.2.2.1,(12,b.2.2.2.2.2.1,b.2.2.2.2.2.2.1,b.2.2.2.1.T_,lit [],0,b.2.2.2.2.2.2.2.2.2.2),r) else some (b.2.2.1,b.2.2.2.2,Sl.mk [] false)).bind fun (r:tA1)=>some r).bind fun (o:tA1)=>some o).bind fun (o:tA1)=>some o).bind fun (o:tA1)=>some o).bind fun (j:tA1)=>some j).bind fun (c:tA1)=>some c).bind fun (c:tA1)=>some c.2
def q8z:zeF:=qav q24 q7o
def q9s (A:zeF) (B:vp) (C:Ge->G4 (Sl ql)) (x:q6):G4 znD:=if decide (x.k_=10)=true then (A (kr x)).bind fun a=>some a else (if decide (x.k_=11)=true then (zd x.K_ 0).bind fun b=>(B (kr b)).bind fun c=>(zd x.K_ 1).bind fun d=>(B (kr d)).bind fun e=>some ((0,0,lit [],lit [],lit [],0,lit [],0,0,false),(6,x.a_,lit [],x.T_,c.n_,c.N_,e.n_,e.N_,0,false),Sl.mk [] false) else (if decide (x.k_=12)=true then some ((0,0,lit [],lit [],lit [],0,lit [],0,0,false),(7,x.a_,lit [],x.T_,lit [],0,lit [],0,0,false),Sl.mk [] false) else (if decide (x.k_=13)=true then some ((0,0,lit [],lit [],lit [],0,lit [],0,0,false),(8,x.a_,lit [],x.T_,lit [],x.N_,lit [],0,0,false),Sl.mk [] false) else (if decide (x.k_=14)=true then some ((0,0,lit [],lit [],lit [],0,lit [],0,0,false),(9,x.a_,lit [],x.T_,lit [],x.N_,lit [],0,0,false),Sl.mk [] false) else (if decide (x.k_=20)=true then (zd x.K_ 0).bind fun i=>(zd x.K_ 0).bind fun j=>(C j.K_).bind fun l=>some ((0,0,lit [],lit [],lit [],0,lit [],0,0,false),(12,x.a_,lit [],i.T_,lit [],0,lit [],0,0,false),l) else (if decide (x.k_=19)=true then (C x.K_).bind fun m=>some ((0,0,lit [],lit [],lit [],0,lit [],0,0,false),(13,x.a_,lit [],x.T_,lit [],0,lit [],0,0,false),m) else (if decide (x.k_=17)=true then (if decide (0 < x.K_.len)=true then (zd x.K_ 0).bind fun n=>(B (kr n)).bind fun o=>some ((0,0,lit [],lit [],lit [],0,lit [],0,0,false),14,x.a_,lit [],lit [],o.n_,o.N_,lit [],0,0,true) else some ((0,0,lit [],lit [],lit [],0,lit [],0,0,false),14,x.a_,lit [],lit [],lit [],0,lit [],0,0,false)).bind fun (n:tA5)=>some n else (if decide (x.k_=18)=true then some ((0,0,lit [],lit [],lit [],0,lit [],0,0,false),15,x.a_,lit [],lit [],lit [],0,lit [],0,0,false) else some ((0,0,lit [],lit [],lit [],0,lit [],0,0,false),0,x.a_,lit [],x.T_,lit [],0,lit [],0,0,false)).bind fun (o:tA5)=>some o).bind fun (n:tA5)=>some (n.1,n.2,Sl.mk [] false)).bind fun (m:tA1)=>some m).bind fun (i:tA1)=>some i).bind fun (i:tA1)=>some i).bind fun (i:tA1)=>some i).bind fun (i:tA1)=>some i).bind fun (b:tA1)=>some b.2
def q2b:zeF:=q9s q8z q24 q7o
def q52 (A:zeF) (B:vp) (C:zdG):znS->G4 (Step znS zti):=fun a=>if decide (a.2.2.2.2.1 < Sl.len a.2.2.2.2.2.2.2.2)=true then (zd a.2.2.2.2.2.2.2.2 a.2.2.2.2.1).bind fun b=>(zd a.2.2.2.2.2.2.2.2 a.2.2.2.2.1).bind fun c=>(zp 136 a.2.2.2.2.2.2.1 [c]).bind fun d=>some (Step.next (a.1,a.2.1,a.2.2.1,a.2.2.2.1,G5 (a.2.2.2.2.1+1),kr a.2.2.2.2.2.1,d,kr a.2.2.2.2.2.2.2.1,a.2.2.2.2.2.2.2.2)) else some (Step.done (a.1,a.2.1,a.2.2.1,a.2.2.2.1,kr a.2.2.2.2.2.1,a.2.2.2.2.2.2.1,kr a.2.2.2.2.2.2.2.1))
def q53 (A:zeF) (B:vp) (C:zdG):zn8->G4 (Step zn8 zdI):=fun a=>if decide (a.2.2.1 < Sl.len a.2.2.2.2.2)=true then (zd a.2.2.2.2.2 a.2.2.1).bind fun b=>(zd a.2.2.2.2.2 a.2.2.1).bind fun c=>(zp 136 a.2.2.2.2.1 [c]).bind fun d=>some (Step.next (a.1,a.2.1,G5 (a.2.2.1+1),kr a.2.2.2.1,d,a.2.2.2.2.2)) else some (Step.done (a.1,a.2.1,kr a.2.2.2.1,a.2.2.2.2.1))
def q3c (A:zeF) (B:vp) (C:zdG):zdI->G4 (Step zdI (Sl qm)):=fun a=>if decide (a.2.1 < a.2.2.1.K_.len)=true then ((zd a.2.2.1.K_ a.2.1).bind fun b=>(if decide (b.k_≠15)=true then some (a.1,a.2.1,G5 (a.1+Sl.len a.2.2.2),decide (b.k_≠16),kr a.2.2.1,a.2.2.2,kr b) else some (a.1,a.2.1,G5 (a.1+Sl.len a.2.2.2),false,kr a.2.2.1,a.2.2.2,kr b)).bind fun c=>if c.2.2.2.1=true then (A (kr c.2.2.2.2.2.2)).bind fun d=>(zp 136 c.2.2.2.2.2.1 [qm.mk d.1.1 d.1.2.1 d.1.2.2.1 d.1.2.2.2.1 (ql.mk d.1.2.2.2.2.1 d.1.2.2.2.2.2.1) (ql.mk d.1.2.2.2.2.2.2.1 d.1.2.2.2.2.2.2.2.1) d.2 d.1.2.2.2.2.2.2.2.2.1 d.1.2.2.2.2.2.2.2.2.2]).bind fun e=>some (c.1,c.2.1,kr c.2.2.2.2.1,e) else (zd c.2.2.2.2.2.2.K_ 0).bind fun i=>(B (kr i)).bind fun j=>(zd c.2.2.2.2.2.2.K_ 1).bind fun l=>(B (kr l)).bind fun m=>(zd c.2.2.2.2.2.2.K_ 2).bind fun n=>(C (kr n,G5 (c.2.2.1+1))).bind fun o=>(zp 136 c.2.2.2.2.2.1 [qm.mk 10 c.2.2.2.2.2.2.a_ c.2.2.2.2.2.2.T_ (lit []) j m (Sl.mk [] false) (G5 (G5 (G5 (c.2.2.1+1)+o.len)+1)) false]).bind fun p=>(lpO (q52 A B C) (c.1,c.2.1,c.2.2.1,G5 (G5 (c.2.2.1+1)+o.len),0,kr c.2.2.2.2.1,p,kr c.2.2.2.2.2.2,o)).bind fun r=>if decide (r.2.2.2.2.2.2.k_=16)=true then (zp 136 r.2.2.2.2.2.1 [qm.mk 11 r.2.2.2.2.2.2.a_ (lit []) (lit []) (ql.mk (lit []) 0) (ql.mk (lit []) 0) (Sl.mk [] false) r.2.2.1 false]).bind fun s=>some (r.1,r.2.1,kr r.2.2.2.2.1,s) else (zd r.2.2.2.2.2.2.K_ 3).bind fun t=>(C (kr t,G5 (r.2.2.2.1+1))).bind fun u=>(zp 136 r.2.2.2.2.2.1 [qm.mk 11 r.2.2.2.2.2.2.a_ (lit []) (lit []) (ql.mk (lit []) 0) (ql.mk (lit []) 0) (Sl.mk [] false) (G5 (G5 (r.2.2.2.1+1)+u.len)) false]).bind fun v=>(lpO (q53 A B C) (r.1,r.2.1,0,kr r.2.2.2.2.1,v,u)).bind fun w=>some (w.1,w.2.1,kr w.2.2.1,w.2.2.2)).bind fun b=>some (Step.next (b.1,G5 (b.2.1+1),kr b.2.2.1,b.2.2.2)) else some (Step.done a.2.2.2)
def q6y (A:zeF) (B:vp) (C:zdG) (x:q6×Int):G4 (Sl qm):=(lpO (q3c A B C) (x.2,0,kr x.1,Sl.mk [] false)).bind fun a=>some a
def q6z (h:zof):zof:=q6y q2b q24 h
def q2i:Nat->(q6×Int)->G4 (Sl qm)
  |0=>fun _=>none
  |k+1=>q6z (q2i k)
def q5h:zof:=q2i 100000
def q54 (A:zdG):znT->G4 (Step znT zs4):=fun a=>if decide (a.2.1 < G5 (a.1 - 1))=true then (zd a.2.2.1.K_ a.2.1).bind fun b=>(zp 16 a.2.2.2.2.2 [b.T_]).bind fun c=>some (Step.next (a.1,G5 (a.2.1+1),kr a.2.2.1,a.2.2.2.1,a.2.2.2.2.1,c)) else some (Step.done (a.1,kr a.2.2.1,a.2.2.2))
def q9t (A:zdG) (x:q6):G4 (G1×Gh×Sl qm):=(lpO (q54 A) (G5 (x.K_.len - 1),0,kr x,lit [],x.T_,Sl.mk [] false)).bind fun a=>(zd a.2.1.K_ a.1).bind fun b=>(A (kr b,0)).bind fun c=>(zd a.2.1.K_ a.1).bind fun d=>(zp 136 c [qm.mk 14 d.a_ (lit []) (lit []) (ql.mk (lit []) 0) (ql.mk (lit []) 0) (Sl.mk [] false) 0 false]).bind fun e=>some (a.2.2.2.1,a.2.2.2.2,e)
def q5g:q6->G4 (G1×Gh×Sl qm):=q9t q5h
end
end Go.Px
