/- Part S1: Px22I0 PxW221. -/
import Derived.Test.YtepembddmcabhaaGreatDoorCh
import Derived.Test.YtepembddmcabhaaGreatDoorB2
namespace Go.Px
abbrev tA0:=(Int×Int)×q6×(Int×ByteArray×Int×Int)×Int×ByteArray×Int×Int⊕q6×(Int×ByteArray×Int×Int)×(Int×ByteArray×Int×Int)×Sl q8⊕q6×(Int×ByteArray×Int×Int)×Int×ByteArray×Int×Int
abbrev tA1:=(Int×Int×ByteArray×ByteArray×ByteArray×Int×ByteArray×Int×Int×Bool)×(Int×Int×ByteArray×ByteArray×ByteArray×Int×ByteArray×Int×Int×Bool)×Sl qn
abbrev tA2:=Sl qa×q8×Sl q8×Sl q8×(ByteArray×Int×Int)×Sl qp×Sl qt→Option ((Int×Int)×(ByteArray×Int×Int)×Sl qp×Sl qt⊕(ByteArray×Int×Int)×Sl qp×Sl qt)
abbrev tA3:=Int×Int×ByteArray×ByteArray×Int×Int⊕Sl qa×Int×Sl q8×Int×Int×q8×(ByteArray×ByteArray×Int×Int)×(ByteArray×ByteArray×Int×Int)×qj×Sl qj
abbrev tA4:=Int×Int×Sl qd×(ByteArray×Int×Int)×Sl ql×Sl qr⊕Int×Int×Sl qd×(ByteArray×Int×Int)×Sl q7×Sl q7×(ByteArray×Int×Int)×Sl Int×Sl ql×Sl qr
abbrev tA5:=(Int×Int×ByteArray×ByteArray×ByteArray×Int×ByteArray×Int×Int×Bool)×Int×Int×ByteArray×ByteArray×ByteArray×Int×ByteArray×Int×Int×Bool
abbrev tA6:=(Int×Int×Int×Int)×Sl q9×(Int×ByteArray×Int×Int)×Sl q7⊕(Int×Int×Int×Int)×Sl q9×(Int×ByteArray×Int×Int)×Int×ByteArray×Int×Int
abbrev tA7:=Int×Int×ByteArray×ByteArray×Int×Int⊕Sl qd×Int×Int×q7×(ByteArray×ByteArray×Int×Int)×(ByteArray×ByteArray×Int×Int)×q7×qi×Sl qi
abbrev tA8:=Sl q8×(Int×Int×Int)×(Sl qf×Sl qa×Int×Int)×Sl qe→Option ((Int×Int)×(Sl qf×Sl qa×Int×Int)×Sl qe⊕(Sl qf×Sl qa×Int×Int)×Sl qe)
abbrev tA9:=q8×Sl q8×(ByteArray×Int×Int)×Sl qp×Sl qt→Option ((Int×Int)×(ByteArray×Int×Int)×Sl qp×Sl qt⊕(ByteArray×Int×Int)×Sl qp×Sl qt)
abbrev zsT:=Int×Int×ByteArray×ByteArray×Int×Int⊕Sl qd×Int×Int×q7×(ByteArray×ByteArray×Int×Int)×(ByteArray×ByteArray×Int×Int)×q7×Sl qi
abbrev zpl:=q8×Bool×Int×(Sl qf×Sl qa×Int×Int)×Sl qe→Option ((Int×Int)×(Sl qf×Sl qa×Int×Int)×Sl qe⊕(Sl qf×Sl qa×Int×Int)×Sl qe)
abbrev zsU:=Int×Int×Sl qd×(ByteArray×Int×Int)×Sl ql⊕Int×Sl qd×(ByteArray×Int×Int)×Sl q7×Sl q7×q7×(ByteArray×Int×Int)×q7×Sl ql
abbrev zsV:=ByteArray×(Sl qf×Sl qa×Int×Int)×Sl qe→Option ((Int×Int)×(Sl qf×Sl qa×Int×Int)×Sl qe⊕qj×(Sl qf×Sl qa×Int×Int)×Sl qe)
abbrev zpm:=ByteArray×qj×(Sl qf×Sl qa×Int×Int)×Sl qe→Option ((Int×Int)×(Sl qf×Sl qa×Int×Int)×Sl qe⊕(Sl qf×Sl qa×Int×Int)×Sl qe)
abbrev zpn:=q8×(Sl qf×Sl qa×Int)×Sl qe→Option ((Int×Int)×(Sl qf×Sl qa×Int)×Sl qe⊕(ByteArray×Int)×(Sl qf×Sl qa×Int)×Sl qe×Sl qj)
abbrev zsW:=Int×Int×ByteArray×ByteArray×Int×Int⊕Sl qa×Int×q8×(ByteArray×ByteArray×Int×Int)×(ByteArray×ByteArray×Int×Int)×Sl qj
abbrev zsX:=Int×Int×ByteArray×ByteArray×Int×Int⊕Sl qd×Int×q7×(ByteArray×ByteArray×Int×Int)×(ByteArray×ByteArray×Int×Int)×Sl qi
abbrev vk:=Bool×Int×(Sl qf×Sl qa×Int×Int)×Sl qe→Option ((Int×Int)×(Sl qf×Sl qa×Int×Int)×Sl qe⊕(Sl qf×Sl qa×Int×Int)×Sl qe)
abbrev zea:=q8×qj×(Sl qf×Sl qa×Int×Int)×Sl qe→Option ((Int×Int)×(Sl qf×Sl qa×Int×Int)×Sl qe⊕(Sl qf×Sl qa×Int×Int)×Sl qe)
abbrev zk2:=q8×(Sl qf×Sl qa×Int×Int)×Sl qe→Option ((Int×Int)×(Sl qf×Sl qa×Int×Int)×Sl qe⊕qj×(Sl qf×Sl qa×Int×Int)×Sl qe)
abbrev zpo:=q8×(Sl qf×Sl qa×Int×Int)×Sl qe→Option (qj×(Sl qf×Sl qa×Int×Int)×Sl qe⊕(Int×Int)×(Sl qf×Sl qa×Int×Int)×Sl qe)
abbrev zeb:=(Sl q8×(Sl qf×Sl qa×Int×Int)×Sl qe)→Option ((Int×Int)×(Sl qf×Sl qa×Int×Int)×Sl qe⊕(Sl qf×Sl qa×Int×Int)×Sl qe)
abbrev zfL:=Sl q8×(Sl qf×Sl qa×Int×Int)×Sl qe→Option ((Int×Int)×(Sl qf×Sl qa×Int×Int)×Sl qe⊕(Sl qf×Sl qa×Int×Int)×Sl qe)
abbrev zk3:=q6×(Int×ByteArray×Int×Int)×(Int×ByteArray×Int×Int)×Sl q8⊕q6×(Int×ByteArray×Int×Int)×Int×ByteArray×Int×Int
abbrev zsY:=Int×Int×Sl qd×(ByteArray×Int×Int)×Sl ql⊕Int×Sl qd×(ByteArray×Int×Int)×Sl q7×Sl q7×(ByteArray×Int×Int)×Sl ql
abbrev zsZ:=Int×Int×Sl qd×(ByteArray×Int×Int)×Sl ql⊕Sl qd×(ByteArray×Int×Int)×Sl q7×Sl q7×q7×(ByteArray×Int×Int)×Sl ql
abbrev zpp:=(Int×Int)×(Sl qf×Sl qa×Int×Int)×Sl qe⊕(Sl qf×Sl qa×Int×Int)×Sl qe×qj⊕(Sl qf×Sl qa×Int×Int)×Sl qe×qj×qj
abbrev zs0:=Int×Int×Sl qd×(ByteArray×Int×Int)×Sl ql×Sl qr⊕Sl qd×(ByteArray×Int×Int)×(ByteArray×Int×Int)×Sl ql×Sl qr
abbrev zin:=q8×Bool×Int×(Sl qf×Sl qa×Int)×Sl qe→Option ((Int×Int)×(Sl qf×Sl qa×Int)×Sl qe⊕(Sl qf×Sl qa×Int)×Sl qe)
abbrev zs1:=(Int×Int)×(Sl qf×Sl qa×Int)×Sl qe⊕Int×(Sl qf×Sl qa×Int)×Sl qe×q8×(ByteArray×Int)×(ByteArray×Int)×Sl qj
abbrev zs2:=Int×Int⊕Sl qa×Sl q8×Int×Sl q8×Int×Int×q8×(ByteArray×Int×Int)×Sl q8×(ByteArray×Int×Int)×q8×Sl qp
abbrev zpq:=Bool×Int×(Sl qf×Sl qa×Int)×Sl qe→Option ((Int×Int)×(Sl qf×Sl qa×Int)×Sl qe⊕(Sl qf×Sl qa×Int)×Sl qe)
abbrev zpr:=(Int×Int)×q6⊕q6×(Int×ByteArray×Int×Int)×Sl q8⊕q6×(Int×ByteArray×Int×Int)×Int×ByteArray×Int×Int
abbrev zs3:=Sl qa×Int×Sl q8×Int×Int×q8×(ByteArray×ByteArray×Int×Int)×(ByteArray×ByteArray×Int×Int)×qj×Sl qj
abbrev zs4:=(Int×Int)×(Int×ByteArray×Int×Int)×Int×Int×Sl q8→Option ((Int×ByteArray×Int×Int)×Int×Int×Sl q8)
abbrev zps:=Sl qd×Int×Int×Int×q7×(ByteArray×ByteArray×Int×Int)×(ByteArray×ByteArray×Int×Int)×q7×qi×Sl qi
abbrev zpt:=(Int×Int)×(Int×ByteArray×Int×Int)×Int×Int×Sl q8⊕(Int×ByteArray×Int×Int)×Int×Int×q6×Sl q8
abbrev zpu:=Sl qa×Int×Sl q8×Int×Int×q8×(ByteArray×ByteArray×Int×Int)×(ByteArray×ByteArray×Int×Int)×Sl qj
abbrev zk4:=Int×(Int×Int×Int×Int)×Sl q9→Option ((Int×ByteArray×Int×Int)×(Int×Int×Int×Int)×Sl q9×Sl q7)
abbrev zs5:=Sl qa×Sl q8×Int×Sl q8×Int×Int×q8×(ByteArray×Int×Int)×Sl q8×(ByteArray×Int×Int)×q8×Sl qp
abbrev zpv:=Sl qd×Int×Int×Int×q7×(ByteArray×ByteArray×Int×Int)×(ByteArray×ByteArray×Int×Int)×q7×Sl qi
abbrev xR:=((Int×Int×Int×Int)×Sl q9)→Option ((Int×ByteArray×Int×Int)×(Int×Int×Int×Int)×Sl q9×Sl q7)
abbrev zpw:=Int×(Int×Int×Int×Int)×Sl q9×(Int×ByteArray×Int×Int)×(Int×ByteArray×Int×Int)×Sl ByteArray
abbrev zk5:=Int×Int×Int×Sl qd×(ByteArray×Int×Int)×Sl q7×Sl q7×(ByteArray×Int×Int)×Sl Int×Sl ql×Sl qr
abbrev zs6:=(Int×Int)×(Int×ByteArray×Int×Int)×Int×Int×Sl q8⊕(Int×ByteArray×Int×Int)×Int×Int×Sl q8
abbrev zpx:=Int×Int×Int×Sl qd×(ByteArray×Int×Int)×Sl q7×Sl q7×(ByteArray×Int×Int)×Sl qr×Sl ql×Sl qr
abbrev zpy:=q7×(Sl qh×Sl qd×Int×Int)×Sl qg→Option ((ByteArray×Int)×(Sl qh×Sl qd×Int×Int)×Sl qg×Sl qi)
abbrev WQ:=(Int×Int×Int×Int)×Sl q9→Option ((Int×ByteArray×Int×Int)×(Int×Int×Int×Int)×Sl q9×Sl q7)
abbrev zs7:=(Int×Int)×(ByteArray×Int×Int)×Sl qp×Sl qt⊕(ByteArray×Int×Int)×Sl qp×Sl qt×q8×Int×Int
abbrev zcJ:=(Int×Int)×(Sl qf×Sl qa×Int×Int)×Sl qe⊕Sl q8×Int×Int×(Sl qf×Sl qa×Int×Int)×Sl qe×qj
abbrev zs8:=(Int×ByteArray×Int×Int)×Int×Int×Sl q8→Option ((Int×ByteArray×Int×Int)×Int×Int×Sl q8)
abbrev VM:=Bool×(Int×Int×Int×Int)×Sl q9×(Int×ByteArray×Int×Int)×(Int×ByteArray×Int×Int)×Sl q7
abbrev zpz:=q6×(Int×ByteArray×Int×Int)×Sl q8⊕q6×(Int×ByteArray×Int×Int)×Int×ByteArray×Int×Int
abbrev zk6:=Int×Sl q8×Int×Int×(Sl qf×Sl qa×Int)×Sl qe×q8×(ByteArray×Int)×(ByteArray×Int)×Sl qj
abbrev zs9:=Int×Bool×Sl qk×q8×Int×Int×ByteArray×ByteArray×ByteArray×Int×ByteArray×Int×Int×Bool
abbrev zk7:=Sl qa×Sl q8×Sl q8×Int×Int×q8×(ByteArray×Int×Int)×Sl q8×(ByteArray×Int×Int)×Sl qp
abbrev vl:=(Int×Int×Int×Int)×Sl q9→Option ((Int×ByteArray×Int×Int)×(Int×Int×Int×Int)×Sl q9)
abbrev zk8:=Sl qd×Int×Int×q7×(ByteArray×ByteArray×Int×Int)×(ByteArray×ByteArray×Int×Int)×Sl qi
abbrev zbD:=q7→Option ((Int×Int×ByteArray×ByteArray×ByteArray×Int×ByteArray×Int×Int×Bool)×Sl qn)
abbrev zta:=Int×Int×(Sl qh×Sl qd×Int×Int)×Sl qg×q7×(ByteArray×Int)×(ByteArray×Int)×qi×Sl qi
abbrev zio:=Int×q7×(Sl qh×Sl qd×Int×Int)×Sl qg→Option (qi×Int×(Sl qh×Sl qd×Int×Int)×Sl qg)
abbrev Xh:=(Int×Int×Int×Int)×Sl q9×(Int×ByteArray×Int×Int)×(Int×ByteArray×Int×Int)×Sl q7
abbrev zec:=(Int×ByteArray×Int×Int)×(Int×Int×Int×Int)×(Int×ByteArray×Int×Int)×Sl q9×Sl q7
abbrev zk9:=Int×Int×Sl qd×(ByteArray×Int×Int)×Sl q7×Sl q7×q7×(ByteArray×Int×Int)×q7×Sl ql
abbrev zip:=(Int×Int)×(Sl qf×Sl qa×Int)×Sl qe⊕(ByteArray×Int)×(Sl qf×Sl qa×Int)×Sl qe×Sl qj
abbrev ztb:=(Int×Int)×q8×Int×Int⊕Sl q8×Int×Int×q8×Int×Int×(Sl qf×Sl qa×Int×Int)×Sl qe
abbrev ztc:=(Int×Int)×q6⊕q6×(Int×ByteArray×Int×Int)×Sl q8⊕q6×q8×Int×ByteArray×Int×Int
abbrev ziq:=Int×Int×Sl qd×(ByteArray×Int×Int)×Sl q7×Sl q7×(ByteArray×Int×Int)×Sl ql×Sl qr
abbrev vO:=Sl qk×(Int×Int×ByteArray×ByteArray×ByteArray×Int×ByteArray×Int×Int×Bool)×Sl qw
abbrev zpA:=Int×Int×(Sl qh×Sl qd×Int×Int)×Sl qg×q7×(ByteArray×Int)×(ByteArray×Int)×Sl qi
abbrev zpB:=Int×q7×(Sl qh×Sl qd×Int×Int)×Sl qg→Option (Int×(Sl qh×Sl qd×Int×Int)×Sl qg)
abbrev ztd:=Int×Int⊕Sl qa×Sl q8×q8×(ByteArray×Int×Int)×Sl q8×(ByteArray×Int×Int)×Sl qp
abbrev zed:=(Int×Sl q7×(Sl qh×Sl qd×Int×Int)×Sl qg)→Option ((Sl qh×Sl qd×Int×Int)×Sl qg)
abbrev zpC:=(Int×Int)×(Sl qf×Sl qa×Int×Int)×Sl qe⊕(Sl qf×Sl qa×Int×Int)×Sl qe×qj×qj
abbrev zte:=(Int×Int)×q8×Int×Int⊕Sl q8×Int×Int×q8×Int×Int×(Sl qf×Sl qa×Int)×Sl qe
abbrev zla:=Int×Sl q8×Int×Int×qx×q7×Sl qe×(Sl qh×Sl qd×Int×Int)×Sl qg×Sl q17×Sl q14
abbrev zfM:=Int×Sl q7×(Sl qh×Sl qd×Int×Int)×Sl qg→Option ((Sl qh×Sl qd×Int×Int)×Sl qg)
abbrev zau:=(Int×Int)×(ByteArray×Int×Int)×Sl qp×Sl qt⊕(ByteArray×Int×Int)×Sl qp×Sl qt
abbrev zcK:=Int×Int×(Sl qh×Sl qd×Int×Int)×Sl qg→Option ((Sl qh×Sl qd×Int×Int)×Sl qg)
abbrev ztf:=Int×(Sl qh×Sl qd×Int×Int)×Sl qg×q7×(ByteArray×Int)×(ByteArray×Int)×Sl qi
abbrev zpD:=Int×(Sl qh×Sl qd×Int×Int)×Sl qg×qi⊕(Sl qh×Sl qd×Int×Int)×Sl qg×qi×qi
abbrev zpE:=(Int×Int)×q6⊕q6×q8⊕q6×(Int×ByteArray×Int×Int)×Int×ByteArray×Int×Int
abbrev zbE:=(Int×Int)×q6⊕q6×(Int×ByteArray×Int×Int)×(Int×ByteArray×Int×Int)×Sl q8
abbrev zpF:=Sl q8×Sl q8×Int×Int×(ByteArray×Int×Int)×(ByteArray×Int×Int)×Sl qp×Sl qt
abbrev Z8:=ByteArray×(Int×Int×Int×Int)×Sl q9→Option (Bool×(Int×Int×Int×Int)×Sl q9)
abbrev zir:=(Int×Int×Int×Int)×Sl q9×(Int×ByteArray×Int×Int)×Int×ByteArray×Int×Int
abbrev zlb:=Int×Sl qd×(ByteArray×Int×Int)×Sl q7×Sl q7×q7×(ByteArray×Int×Int)×Sl ql
abbrev vm:=(Int×Int)×(Sl qf×Sl qa×Int×Int)×Sl qe⊕qj×(Sl qf×Sl qa×Int×Int)×Sl qe
abbrev zlc:=qj×(Sl qf×Sl qa×Int×Int)×Sl qe⊕(Int×Int)×(Sl qf×Sl qa×Int×Int)×Sl qe
abbrev zld:=(Int×Int×ByteArray×ByteArray×ByteArray×Int×ByteArray×Int×Int×Bool)×Sl qn
abbrev ztg:=Sl qk×Int×Int×ByteArray×ByteArray×ByteArray×Int×ByteArray×Int×Int×Bool
abbrev zle:=ByteArray×Int×Bool×q6×(Int×ByteArray×Int×Int)×Int×ByteArray×Int×Int
abbrev zth:=Int×(Sl qh×Sl qd×Int×Int)×Sl qg×qi⊕(Sl qh×Sl qd×Int×Int)×Sl qg×qi
abbrev zpG:=(Sl qf×Sl qa×Int×Int)×Sl qe×qj⊕(Sl qf×Sl qa×Int×Int)×Sl qe×qj×qj
abbrev zpH:=Int×Sl qd×(ByteArray×Int×Int)×Sl q7×Sl q7×(ByteArray×Int×Int)×Sl ql
abbrev zL:=(Int×Int)×(Sl qf×Sl qa×Int×Int)×Sl qe⊕(Sl qf×Sl qa×Int×Int)×Sl qe
abbrev wU:=ByteArray×(Int×Int×Int×Int)×Sl q9→Option ((Int×Int×Int×Int)×Sl q9)
abbrev zti:=Sl qd×(ByteArray×Int×Int)×Sl q7×Sl q7×q7×(ByteArray×Int×Int)×Sl ql
abbrev zis:=Sl q8×Sl q8×Int×Int×(ByteArray×Int×Int)×Sl qp×Sl qt×q8×Int×Int
abbrev zp3:=q7×(Int×Int×Int×Int)×Sl q9→Option (q7×(Int×Int×Int×Int)×Sl q9)
abbrev zgB:=Int×Int×Sl q8×Int×Int×Sl qf×q7×Sl qh×(Sl qa×Sl qd)×Sl q8×Sl q7
abbrev zp4:=q6×(Int×ByteArray×Int×Int)×Sl q8⊕q6×q8×Int×ByteArray×Int×Int
abbrev zlf:=(Int×Int×Int×Int)×Sl q9→Option ((Int×Int×Int×Int)×Sl q9×Sl q7)
abbrev zgC:=Int×q6→Option ((Int×Int)×q6⊕(Int×ByteArray×Int×Int)×q6×Sl q8)
abbrev zp5:=(Int×Int)×q8×Int×Int×Sl qa⊕Sl q8×Int×Int×q8×Int×Int×Sl qa
abbrev WR:=Int×(Int×Int×Int×Int)×Sl q9→Option ((Int×Int×Int×Int)×Sl q9)
abbrev zgD:=(Int×Int×Int×Int)×Sl q9→Option (Int×(Int×Int×Int×Int)×Sl q9)
abbrev zlg:=Sl q8×Int×Int×Sl q8×Int×Int×(Sl qf×Sl qa×Int×Int)×Sl qe×qj
abbrev zp6:=ByteArray×(ByteArray×Int)×Sl qi→Option (Int×(ByteArray×Int)×Sl qi)
abbrev Wd:=(Int×Int×Int×Int)×Sl q9→Option (q7×(Int×Int×Int×Int)×Sl q9)
abbrev zbF:=Int×(Sl qh×Sl qd×Int×Int)×Sl qg⊕(Sl qh×Sl qd×Int×Int)×Sl qg
abbrev zgE:=(Int×Int)×q6×(Int×ByteArray×Int×Int)×Int×ByteArray×Int×Int
abbrev zp7:=Int×Int⊕(ByteArray×Int×Int)×(ByteArray×Int×Int)×Sl qp×Sl qt
abbrev zp8:=ByteArray×(Int×Int×Int×Int)×Sl q9⊕(Int×Int×Int×Int)×Sl q9
abbrev zgF:=(Int×Int)×q8×Int×Int⊕q8×Int×Int×(Sl qf×Sl qa×Int)×Sl qe
abbrev ZS:=q6→Option ((Int×Int)×q6⊕(Int×ByteArray×Int×Int)×q6×Sl q8)
abbrev zlh:=q6→Option ((Int×ByteArray×Int×Int)×q6×Sl q8⊕(Int×Int)×q6)
abbrev wb:=(Int×Int)×(Sl qf×Sl qa×Int)×Sl qe⊕(Sl qf×Sl qa×Int)×Sl qe
abbrev zli:=(Int×Int×Int)×Sl q8×Int×Int×(Sl qf×Sl qa×Int×Int)×Sl qe
abbrev zlj:=q6×q8⊕q6×(Int×ByteArray×Int×Int)×Int×ByteArray×Int×Int
abbrev xX:=q6×(Int×ByteArray×Int×Int)×(Int×ByteArray×Int×Int)×Sl q8
abbrev zp9:=Sl qa×q8→Option (Int×Int⊕(ByteArray×Int×Int)×Sl qp×Sl qt)
abbrev zqa:=(Sl qh×Sl qd×Int×Int)×Sl qg⊕(Sl qh×Sl qd×Int×Int)×Sl qg
abbrev zqb:=Sl q8×Int×Int×q8×Int×Int×(Sl qf×Sl qa×Int×Int)×Sl qe
abbrev zqc:=Int×qx×Sl qe×(Sl qh×Sl qd×Int×Int)×Sl qg×Sl q17×Sl q14
abbrev zgG:=Bool×q6×(Int×ByteArray×Int×Int)×Int×ByteArray×Int×Int
abbrev Zt:=(Int×ByteArray×Int×Int)×(Int×Int×Int×Int)×Sl q9×Sl q7
abbrev zqd:=(Int×Int×Int×Int)×Sl q9×(Int×ByteArray×Int×Int)×Sl q7
abbrev zqe:=Int×Int×Bool×(Sl qh×Sl qd×Int×Int)×Sl qg×q7×qi×qi
abbrev zlk:=Sl qa×q8×Sl q8×Sl q8×(ByteArray×Int×Int)×Sl qp×Sl qt
abbrev We:=q6→Option ((Int×Int)×q6⊕(Int×ByteArray×Int×Int)×q6)
abbrev V2:=Sl q8×Int×Int×q8×Int×Int×(Sl qf×Sl qa×Int)×Sl qe
abbrev zll:=Int×Sl q7×Int×Int×(Sl qh×Sl qd×Int×Int)×Sl qg×q7
abbrev zqf:=q7×Sl qh×Sl qd→Option ((Sl qh×Sl qd×Int×Int)×Sl qg)
abbrev wL:=q6×(Int×ByteArray×Int×Int)×Int×ByteArray×Int×Int
abbrev zeT:=Sl q8×Int×Int×ByteArray×ByteArray×Sl ByteArray×Sl qk
abbrev zbG:=(Int×Int)×(Int×ByteArray×Int×Int)×Int×Int×Sl q8
abbrev YE:=(Int×ByteArray×Int×Int)×(Int×Int×Int×Int)×Sl q9
abbrev zlm:=Sl qj×Sl q8×Int×Int×(Sl qf×Sl qa×Int×Int)×Sl qe
abbrev zqg:=Int×Bool×(Sl qf×Sl qa×Int×Int)×Sl qe×q8×qj×qj
abbrev zln:=Sl q8×(Int×Int×Int)×(Sl qf×Sl qa×Int×Int)×Sl qe
abbrev zgH:=(ByteArray×Int)×(Sl qh×Sl qd×Int×Int)×Sl qg×Sl qi
abbrev zqh:=Int×Sl q7×(Int×Int×Int)×Sl qg→Option (Int×Sl qg)
abbrev Zb:=(Int×Int)×q6⊕(Int×ByteArray×Int×Int)×q6×Sl q8
abbrev V3:=(Int×Int)×q6⊕q6×q8⊕q6×Int×ByteArray×Int×Int
abbrev zqi:=(Int×ByteArray×Int×Int)×q6×Sl q8⊕(Int×Int)×q6
abbrev zqj:=(Int×Int)×q8×Int×Int×Sl qa⊕q8×Int×Int×Sl qa
abbrev zqk:=(Int×Int)×Int×Int×Sl qa→Option (Int×Int×Sl qa)
abbrev WS:=Sl q8×Int×Int×(Sl qf×Sl qa×Int×Int)×Sl qe×qj
abbrev zlo:=(Int×Int)×Int×Int×Sl qe→Option (Int×Int×Sl qe)
abbrev zlp:=Int×Int×Sl qd×(ByteArray×Int×Int)×Sl ql×Sl qr
abbrev zql:=Int×Int×Sl qf×Sl qh×(Sl qa×Sl qd)×Sl q8×Sl q7
abbrev zqm:=Int×(ByteArray×Int)×Sl qi⊕(ByteArray×Int)×Sl qi
abbrev zqn:=Int×Bool×(Sl qh×Sl qd×Int×Int)×Sl qg×qi×qi
abbrev zqo:=(ByteArray×Int)×(Sl qf×Sl qa×Int)×Sl qe×Sl qj
abbrev zlq:=Int×Int×(Sl qh×Sl qd×Int×Int)×Sl qg×q7×qi
abbrev zqp:=(Int×Int)×q6⊕q6×q8×Int×ByteArray×Int×Int
abbrev zc4:=Int×Sl q7×Int×(Sl qh×Sl qd×Int×Int)×Sl qg
abbrev zc5:=(Int×ByteArray×Int×Int)×Int×Int×q6×Sl q8
abbrev zlr:=ByteArray×(ByteArray×ByteArray×ByteArray)×Int
abbrev Z1:=(Int×Int)×q6⊕(Int×ByteArray×Int×Int)×q6
abbrev V4:=(Int×Int)×(ByteArray×Int×Int)×Sl qp×Sl qt
abbrev zls:=q8×Bool×Int×(Sl qf×Sl qa×Int×Int)×Sl qe
abbrev zlt:=Int×Int×Int×Int×Int×q7×Sl qm×q7×Sl qm
abbrev zlu:=Int×Int×q7×ByteArray×ByteArray×Sl ByteArray
abbrev zqq:=Int×Bool×q7×(Sl qh×Sl qd×Int×Int)×Sl qg
abbrev zlv:=q8×Sl q8×(ByteArray×Int×Int)×Sl qp×Sl qt
abbrev zlw:=Int×(Int×Int×Int×Int)×Sl q9×Sl ByteArray
abbrev zlx:=ByteArray×qj×(Sl qf×Sl qa×Int×Int)×Sl qe
abbrev zly:=Int×Int×(Sl qh×Sl qd×Int×Int)×Sl qg×q7
abbrev zeU:=Int×Int⊕(ByteArray×Int×Int)×Sl qp×Sl qt
abbrev zbH:=Int×Int×Sl qd×(ByteArray×Int×Int)×Sl ql
abbrev zgI:=Sl q8×Sl qj×(Sl qf×Sl qa×Int×Int)×Sl qe
abbrev zqr:=Int×ByteArray×Sl qg→Option (qi×Int×Sl qg)
abbrev zqs:=Int×(Sl qh×Sl qd×Int×Int)×Sl qg×qi×qi
abbrev zqt:=ByteArray×Int×Int×Int×Int→Option (Sl qt)
abbrev zc6:=ByteArray×Int×Int×Int×Int→Option (Sl qr)
abbrev zqu:=Int×Sl q7×Sl qi×Sl qg→Option (Int×Sl qg)
abbrev wM:=(Int×ByteArray×Int×Int)×Int×Int×Sl q8
abbrev zE:=(Int×Int)×(Sl qf×Sl qa×Int×Int)×Sl qe
abbrev zeV:=Int×Sl q7×(Sl qh×Sl qd×Int×Int)×Sl qg
abbrev zlz:=Bool×Int×(Sl qf×Sl qa×Int×Int)×Sl qe
abbrev zqv:=ByteArray×ByteArray→Option (qx×q18×Bool)
abbrev wc:=ByteArray×q6→Option ((Int×Int)×q6⊕q6)
abbrev zgJ:=Int×q6→Option ((Int×Int)×q6⊕Int×q6)
abbrev zlA:=q6→Option (ByteArray×q6⊕(Int×Int)×q6)
abbrev zlB:=q8×Bool×Int×(Sl qf×Sl qa×Int)×Sl qe
abbrev zlC:=ByteArray×(Sl qf×Sl qa×Int×Int)×Sl qe
abbrev zlD:=Int×Int×(Sl qh×Sl qd×Int×Int)×Sl qg
abbrev zqw:=Int×q7×ByteArray×ByteArray×Sl ByteArray
abbrev zqx:=q8×Sl qf×Sl qa→Option (Int×Int×Sl qe)
abbrev zqy:=Int×q6→Option ((Int×Int)×q6⊕qq×q6)
abbrev zlE:=(ByteArray×ByteArray×ByteArray)×Int×q6
abbrev zqz:=Int×Int×Sl qa→Option (Int×Int×Sl qa)
abbrev zlF:=Int×Int×Sl qe→Option (Int×Int×Sl qe)
abbrev zqA:=q8×Int×Int×(Sl qf×Sl qa×Int)×Sl qe
abbrev zlG:=Int×ByteArray×Sl qg→Option (Int×Sl qg)
abbrev xY:=Int×q7×(Sl qh×Sl qd×Int×Int)×Sl qg
abbrev zgK:=Int×(Sl qh×Sl qd×Int×Int)×Sl qg×qi
abbrev vY:=qi×Int×(Sl qh×Sl qd×Int×Int)×Sl qg
abbrev zbI:=q7→Option (ByteArray×Sl ByteArray×Sl qm)
abbrev zlH:=q8×q6→Option ((Int×Int)×q6⊕q8×q6)
abbrev zbJ:=Int×Int×ByteArray×ByteArray×Int×Int
abbrev zlI:=q8×qj×(Sl qf×Sl qa×Int×Int)×Sl qe
abbrev zbK:=(Sl qf×Sl qa×Int×Int)×Sl qe×qj×qj
abbrev zgL:=(Sl qh×Sl qd×Int×Int)×Sl qg×qi×qi
abbrev zlJ:=Int×Sl q7×(Int×Int×Int)×Int×Sl qg
abbrev zqB:=ByteArray×Int×Int×ByteArray×Int×qq
abbrev zqC:=Sl q8×ByteArray→Option (Int×ByteArray)
abbrev V5:=ByteArray×Int×Int×Int×Bool×q9×q9
abbrev zlK:=(Int×Int×Int×Int)×Sl q9×q7×Sl q7
abbrev zqD:=q7×Sl qd→Option (qd×Int×Int×Sl qd)
abbrev zqE:=ByteArray×ByteArray×Sl ByteArray×Sl qk
abbrev zc7:=Int×q7×qi×Sl qg→Option (Int×Sl qg)
abbrev xD:=q6→Option ((Int×Int)×q6⊕q6×Sl q8)
abbrev zc8:=Bool×q8×Int→Option (Int×Int⊕Unit)
abbrev XB:=ByteArray×(Int×Int×Int×Int)×Sl q9
abbrev zc9:=Int×Int×(Int×Int×Int×Int)×Sl q9
abbrev wd:=(Int×Int)×(Sl qf×Sl qa×Int)×Sl qe
abbrev zeW:=Sl q8×(Sl qf×Sl qa×Int×Int)×Sl qe
abbrev zlL:=ByteArray×Int×(ByteArray×Int)×Sl qi
abbrev xZ:=(Int×ByteArray×Int×Int)×q6×Sl q8
abbrev zeX:=q6×(Int×ByteArray×Int×Int)×Sl q8
abbrev V6:=q6×q8⊕q6×Int×ByteArray×Int×Int
abbrev zqF:=qa×ByteArray→Option (Bool×ByteArray)
abbrev zgM:=q8×ByteArray→Option (Bool×ByteArray)
abbrev zeY:=Sl q8×Int×Int×q8×Int×Int×Sl qa
abbrev zlM:=Bool×Int×(Sl qf×Sl qa×Int)×Sl qe
abbrev zqG:=qj×ByteArray→Option (Bool×ByteArray)
abbrev zgN:=ByteArray×Int×Int→Option (qq×Int)
abbrev zqH:=ByteArray×Int×Int×Int×Int×Sl qr
abbrev vu:=Int×(Sl qh×Sl qd×Int×Int)×Sl qg
abbrev zgO:=q6→Option (q8×q6⊕(Int×Int)×q6)
abbrev xE:=q6→Option ((Int×Int)×q6⊕q8×q6)
abbrev V7:=qj×(Sl qf×Sl qa×Int×Int)×Sl qe
abbrev zda:=q8×(Sl qf×Sl qa×Int×Int)×Sl qe
abbrev zgP:=(Sl qf×Sl qa×Int×Int)×Sl qe×qj
abbrev zeZ:=q7×(Sl qh×Sl qd×Int×Int)×Sl qg
abbrev zdb:=(ByteArray×Int×Int)×Sl qp×Sl qt
abbrev zgQ:=Sl qj×qj→Option (Bool×Sl qj×qj)
abbrev V8:=(Int×Int×Int×Int)×Sl q9×Sl q7
abbrev zqI:=q8×Sl qa→Option (Int×Int×Sl qf)
abbrev zqJ:=q7×Sl qd→Option (Int×Int×Sl qh)
abbrev zlN:=Int×Sl q7×(Int×Int×Int)×Sl qg
abbrev zqK:=Int×Int×Int×Int×q7×Sl qm×q7
abbrev zgR:=ByteArray→Option (Int×Int×Sl qq)
abbrev zqL:=Sl qj×qj→Option (Int×Sl qj×qj)
abbrev zqM:=ByteArray×Int×Int×Bool×q9×q9
abbrev zS:=Bool×(Int×Int×Int×Int)×Sl q9
abbrev zgS:=ByteArray→Option (Int×Int×Sl q9)
abbrev zlO:=Sl qe×q8→Option (Int×Sl qe×q8)
abbrev zgT:=q6×q8×Int×ByteArray×Int×Int
abbrev zqN:=Sl ByteArray×ByteArray→Option Int
abbrev xa:=Int×(Int×Int×Int×Int)×Sl q9
abbrev zlP:=ByteArray×(ByteArray×Int)×Sl qi
abbrev zlQ:=Int×Int×qx×q18×Sl qu×Sl q10
abbrev V9:=Int×q6→Option ((Int×Int)×q6)
abbrev zlR:=Sl ByteArray×ByteArray×Int×Int
abbrev zlS:=(Int×Int)×q8×Int×Int×Sl qa
abbrev zqO:=q8×Sl qa→Option (qf×Int×Int)
abbrev Zw:=q7×(Int×Int×Int×Int)×Sl q9
abbrev zqP:=q7×Sl qd→Option (qh×Int×Int)
abbrev zlT:=Int×Int×Int×q7×Sl qm×Sl qm
abbrev zlU:=ByteArray×ByteArray→Option Bool
abbrev Zx:=ByteArray×q6→Option (Bool×q6)
abbrev zdc:=qa×ByteArray×Sl q8→Option Int
abbrev zlV:=ByteArray×Int→Option (q9×Int)
abbrev zdd:=ByteArray→Option (q8×Int×Int)
abbrev zde:=ByteArray→Option (q7×Int×Int)
abbrev z8:=(Sl qf×Sl qa×Int×Int)×Sl qe
abbrev Zu:=(Sl qh×Sl qd×Int×Int)×Sl qg
abbrev zgU:=ByteArray×Int×Int×Sl qq×qq
abbrev yO:=(Int×ByteArray×Int×Int)×q6
abbrev zlW:=q8×(Sl qf×Sl qa×Int)×Sl qe
abbrev zqQ:=ByteArray×q6⊕(Int×Int)×q6
abbrev ze0:=Sl q8×Int×Int×Sl q8×Sl q8
abbrev zdf:=ByteArray×Int×Int×Int×Int
abbrev zgV:=Sl qa×Sl q8×Int×Int×Sl qf
abbrev ze1:=qk×Sl qk→Option (Int×Sl qk)
abbrev zlX:=Int×Sl q7×Sl qi×Int×Sl qg
abbrev vv:=q6×Int×ByteArray×Int×Int
abbrev zlY:=ByteArray×Sl ByteArray×Sl qm
abbrev zlZ:=Sl q8×ByteArray→Option Bool
abbrev zl0:=(Int×Int)×Int×Int×Sl qa
abbrev ze2:=ByteArray×Int×Int×q9×q9
abbrev zz:=(Int×Int×Int×Int)×Sl q9
abbrev zgW:=q7×Sl qd→Option (qi×Bool)
abbrev zgX:=q8→Option (Int×Int×Sl qa)
abbrev zgY:=q7→Option (Int×Int×Sl qd)
abbrev zl1:=(Int×Int)×Int×Int×Sl qe
abbrev ze3:=Int×(ByteArray×Int)×Sl qi
abbrev zqR:=Sl qj×qu→Option (Bool×qu)
abbrev zbL:=Sl qa×ByteArray→Option Int
abbrev zqS:=q8×Sl qa→Option (qj×Int)
abbrev zqT:=ByteArray×Int×Bool×Sl q9
abbrev vZ:=Sl qd×ByteArray→Option Int
abbrev zdg:=Sl q7×ByteArray→Option Int
abbrev zgZ:=ByteArray→Option (qx×Bool)
abbrev zqU:=Sl qe×qk→Option (Int×qk)
abbrev zqV:=Int×Int⊕ByteArray×Sl qq
abbrev Yc:=(Int×Int)×q6⊕q6×Sl q8
abbrev zl2:=Sl qa×Int×Int×ByteArray
abbrev zdh:=Sl q8×Int×Int×ByteArray
abbrev zg0:=Int×Sl qj×qj⊕Sl qj×qj
abbrev zqW:=Int×Int⊕ByteArray×Sl q9
abbrev zaa:=(Sl qf×Sl qa×Int)×Sl qe
abbrev zl3:=Sl qj×Int×Int×ByteArray
abbrev zqX:=Int×Sl qe×q8⊕Sl qe×q8
abbrev YF:=(q8×Sl qk)→Option (Sl qk)
abbrev zl4:=Int×ByteArray×Int×Sl qg
abbrev WT:=ByteArray×Int→Option Int
abbrev zg1:=ByteArray→Option ByteArray
abbrev zg2:=qj×qj→Option (Bool×qj)
abbrev zqY:=qf×q8→Option (Bool×q8)
abbrev zdi:=(Int×Int)×q8×Int×Int
abbrev zqZ:=qe×qk→Option (Bool×qk)
abbrev zq0:=qj×qu→Option (Bool×qu)
abbrev v6:=(Int×Int)×q6⊕Int×q6
abbrev zab:=Int×ByteArray⊕ByteArray
abbrev ze4:=q8→Option (Sl q8×Sl q8)
abbrev zg3:=qe×ByteArray→Option Int
abbrev zdj:=q8×Sl qk→Option (Sl qk)
abbrev zl5:=Int×Sl q7×Sl qi×Sl qg
abbrev zbM:=(q7×Int)→Option (Sl qm)
abbrev ze5:=(Int×Int)×q6⊕qq×q6
abbrev zl6:=q8×q6⊕(Int×Int)×q6
abbrev ZM:=(Int×Int)×q6⊕q8×q6
abbrev zg4:=(Int×Int)×q6⊕q6×q8
abbrev zdk:=q7×Int→Option (Sl q7)
abbrev zl7:=Sl q8×Int×Int×Sl qw
abbrev zl8:=Sl q8×Int×Int×Sl qk
abbrev zdl:=q7×Int→Option (Sl qm)
abbrev zl9:=Sl ByteArray×ByteArray
abbrev zg5:=Sl qd×Int×q7×Sl qh
abbrev zac:=ByteArray→Option Bool
abbrev ze6:=ByteArray×Int×Sl qq
abbrev zma:=Int×Sl q8×Int×Int
abbrev v7:=ByteArray×Int×Sl q9
abbrev zmb:=Sl qd×ByteArray×Int
abbrev zmc:=Sl q7×ByteArray×Int
abbrev zdm:=Int×ByteArray×Sl qg
abbrev zmd:=qu→Option (Int×Int)
abbrev zg6:=ByteArray×Int×Bool
abbrev zme:=qa×ByteArray×Sl q8
abbrev zdn:=Int×Int×Sl qj×qj
abbrev zg7:=Int×Int×q7×Sl q7
abbrev zg8:=qd×Int×Int×Sl qd
abbrev zmf:=Sl qf×Int×Int×q8
abbrev zmg:=Int×Int×Sl qe×q8
abbrev zdo:=Int×Int×q7×Sl qm
abbrev zmh:=Sl qe×Int×Int×qk
abbrev zmi:=Sl qj×Int×Int×qu
abbrev zg9:=Sl qk×Int×Int×qu
abbrev zP:=ByteArray×Int×Int
abbrev wN:=ByteArray×ByteArray
abbrev XC:=q6→Option (qq×q6)
abbrev Z5:=(Int×Int)×q6⊕q6
abbrev zmj:=Int×q7×qi×Sl qg
abbrev ze7:=Bool×Sl qu×Sl q10
abbrev zha:=Sl qd×q7×qi×qi
abbrev zmk:=q8×Int→Option qw
abbrev zhb:=q8→Option (Sl qw)
abbrev zdp:=Int×Sl qg⊕Sl qg
abbrev zml:=Sl q7×Int×Sl qn
abbrev zmm:=q8×Sl qf×Sl qa
abbrev zmn:=q7×Sl qh×Sl qd
abbrev zmo:=Unit→Option Bool
abbrev zV:=Int→Option Bool
abbrev zmp:=Int×Int×Sl qq
abbrev zbN:=Sl qa×ByteArray
abbrev wO:=Sl q8×ByteArray
abbrev wP:=Int×Int×Sl qa
abbrev zad:=Bool×Sl qj×qj
abbrev zmq:=Sl qd×ByteArray
abbrev zmr:=Sl q7×ByteArray
abbrev zhc:=Int×Int×Sl qf
abbrev zhd:=Int×Int×Sl qh
abbrev zhe:=Sl qj×ByteArray
abbrev x2:=Int×Int×Sl qe
abbrev zj:=(Int×Int)×q6
abbrev yy:=Bool×ByteArray
abbrev xb:=Int×Int⊕Unit
abbrev vw:=Int×Sl qj×qj
abbrev zhf:=Int×q7×Sl qd
abbrev ze8:=Int×Sl qe×q8
abbrev zae:=qi×Int×Sl qg
abbrev zW:=ByteArray×Int
abbrev WU:=q8→Option Int
abbrev yz:=Int×ByteArray
abbrev zms:=Bool×q8×Int
abbrev WV:=q7→Option Int
abbrev zhg:=q8×q8×Sl qk
abbrev zbO:=q8→Option q17
abbrev zhh:=qx×q18×Bool
abbrev WW:=ByteArray×q6
abbrev zdq:=Int×Int×q6
abbrev zdr:=q8×ByteArray
abbrev zhi:=qf×Int×Int
abbrev zhj:=qh×Int×Int
abbrev zds:=q8→Option qw
abbrev vx:=q7→Option qn
abbrev zhk:=Sl q8×Sl q8
abbrev zaf:=Int×Sl qk
abbrev Z6:=Int×Sl qg
abbrev yk:=q6×Sl q8
abbrev zdt:=Int⊕Unit
abbrev v8:=q8×Sl qa
abbrev we:=Sl qj×qj
abbrev ze9:=qj×Sl qa
abbrev Wf:=q7×Sl qd
abbrev zag:=q8×Sl qk
abbrev zbP:=Sl qj×qu
abbrev Zy:=ByteArray
abbrev zT:=Int×Int
abbrev zH:=Bool×q6
abbrev Va:=Bool×qj
abbrev zfa:=qi×Bool
abbrev Vb:=Bool×qu
deriving instance DecidableEq for Sl
mutual
def zpI:q8→q8→Bool
  |⟨k,t,n,a,s⟩,⟨k',t',n',a',s'⟩=>(decide (k=k') && (decide (t=t') && (decide (n=n') && decide (a=a')))) && zpJ s s'
def zpJ:Sl q8→Sl q8→Bool
  |⟨l,b⟩,⟨l',b'⟩=>(b == b') && zee l l'
def zee:List q8→List q8→Bool
  |[],[]=>true
  |x::l,y::r=>zpI x y && zee l r
  |_,_=>false
end
mutual
theorem zit:∀ a b:q8,zpI a b=true↔a=b
  |⟨k,t,n,a,s⟩,⟨k',t',n',a',s'⟩=>by
    unfold zpI
    have:=zpK s s'
    simp only [Bool.and_eq_true,decide_eq_true_eq,this,q8.mk.injEq]
    constructor
    · rintro ⟨⟨h1,h2,h3,h4⟩,h5⟩;exact ⟨h1,h2,h3,h4,h5⟩
    · rintro ⟨h1,h2,h3,h4,h5⟩;exact ⟨⟨h1,h2,h3,h4⟩,h5⟩
theorem zpK:∀ a b:Sl q8,zpJ a b=true↔a=b
  |⟨l,b⟩,⟨l',b'⟩=>by
    unfold zpJ
    have:=ziu l l'
    simp only [Bool.and_eq_true,beq_iff_eq,this,Sl.mk.injEq]
    constructor
    · rintro ⟨h1,h2⟩;exact ⟨h2,h1⟩
    · rintro ⟨h1,h2⟩;exact ⟨h2,h1⟩
theorem ziu:∀ a b:List q8,zee a b=true↔a=b
  |[],[]=>by unfold zee;simp
  |x::l,y::r=>by
    unfold zee
    have h1:=zit x y
    have h2:=ziu l r
    simp only [Bool.and_eq_true,h1,h2,List.cons.injEq]
  |[],_::_=>by unfold zee;simp
  |_::_,[]=>by unfold zee;simp
end
instance:DecidableEq q8:=fun a b=>decidable_of_iff _ (zit a b)
deriving instance DecidableEq for qq
deriving instance DecidableEq for q6
deriving instance DecidableEq for qp
deriving instance DecidableEq for qt
deriving instance DecidableEq for qa
deriving instance DecidableEq for qj
deriving instance DecidableEq for qf
deriving instance DecidableEq for qe
end Go.Px
namespace Go.Px
open Go.Proofs
set_option linter.unusedVariables false
set_option maxRecDepth 100000
set_option maxHeartbeats 4000000
set_option synthInstance.maxHeartbeats 4000000
set_option synthInstance.maxSize 100000
noncomputable def qcw (L:zc) (G:zf) (x:Int):Option Bool:=some (decide (x≠10))
noncomputable def qc3:zV:=qcw lpW zh
noncomputable def wQ:zV:=P0.F
instance tw_lex_Tokens_1 (x):LC (qc3 x) (wQ x):=by
  rw [show wQ x=qcw lpO zg x from by kernel_rfl]
  unfold qc3 qcw
  infer_instance
noncomputable def q71 (L:zc) (G:zf) (f0:zV):zW→Option (Step zW Int):=fun (y0:zW)=>(if decide (y0.snd < (↑(ByteArray.size y0.fst):Int))=true then (Z0 y0.fst y0.snd).bind fun (y1:Int)=>(f0 y1).bind fun (y2:Bool)=>some (y0.fst,y0.snd,y2) else some (y0.fst,y0.snd,false)).bind fun (y3:zg6)=>if y3.snd.snd=true then some (Step.next (y3.fst,IntKind.i64.wrap (y3.snd.fst+1))) else some (Step.done y3.snd.fst)
noncomputable def qbo (L:zc) (G:zf) (f0:zV) (x:zW):Option Int:=(L ((q71 L G) f0) x).bind fun (y4:Int)=>some y4
noncomputable def q8f:zW→Option Int:=qbo lpW zh qc3
noncomputable def x3:zW→Option Int:=P1.F
instance (y):LC (q71 lpW zh qc3 y) (q71 lpO zg wQ y):=by
  unfold q71
  infer_instance
instance tw_lex_run_Tokens1 (x):LC (q8f x) (x3 x):=by
  rw [show x3 x=qbo lpO zg wQ x from by kernel_rfl]
  unfold q8f qbo
  infer_instance
noncomputable def qdy (L:zc) (G:zf) (x:Int):Option Bool:=(if decide (48≤x)=true then some (decide (x≤57)) else some false).bind fun (y0:Bool)=>some y0
noncomputable def q7b:zV:=qdy lpW zh
noncomputable def xS:zV:=P2.F
instance tw_lex_digit (x):LC (q7b x) (xS x):=by
  rw [show xS x=qdy lpO zg x from by kernel_rfl]
  unfold q7b qdy
  infer_instance
noncomputable def qa8 (L:zc) (G:zf) (f2:zV):zW→Option (Step zW Int):=fun (y0:zW)=>(if decide (y0.snd < (↑(ByteArray.size y0.fst):Int))=true then (Z0 y0.fst y0.snd).bind fun (y1:Int)=>(f2 y1).bind fun (y2:Bool)=>some (y0.fst,y0.snd,y2) else some (y0.fst,y0.snd,false)).bind fun (y3:zg6)=>if y3.snd.snd=true then some (Step.next (y3.fst,IntKind.i64.wrap (y3.snd.fst+1))) else some (Step.done y3.snd.fst)
noncomputable def qcp (L:zc) (G:zf) (f2:zV) (x:zW):Option Int:=(L ((qa8 L G) f2) x).bind fun (y4:Int)=>some y4
noncomputable def qbl:zW→Option Int:=qcp lpW zh q7b
noncomputable def wg:zW→Option Int:=P3.F
instance (y):LC (qa8 lpW zh q7b y) (qa8 lpO zg xS y):=by
  unfold qa8
  infer_instance
instance tw_lex_run_digit (x):LC (qbl x) (wg x):=by
  rw [show wg x=qcp lpO zg xS x from by kernel_rfl]
  unfold qbl qcp
  infer_instance
noncomputable def qdl (L:zc) (G:zf) (x:Int):Option Bool:=(if decide (97≤x)=true then if decide (x≤122)=true then some true else some (decide (x=95)) else some (decide (x=95))).bind fun (y0:Bool)=>some y0
noncomputable def q8n:zV:=qdl lpW zh
noncomputable def Xi:zV:=P5.F
instance tw_lex_letter (x):LC (q8n x) (Xi x):=by
  rw [show Xi x=qdl lpO zg x from by kernel_rfl]
  unfold q8n qdl
  infer_instance
noncomputable def qdm (L:zc) (G:zf) (f4:zP→Option (Int⊕Int)) (f5:zV) (x:zP):Option (qq×Int):=(yY x.fst x.snd.fst x.snd.snd).bind fun (y0:Zy)=>((f4 (y0,10,64)).bind fun (y1:Int⊕Int)=>Sum.elim (fun (y2:Int)=>some (Sum.inl (x.fst,x.snd.fst,x.snd.snd,y0,y2,qq.mk 0 (lit []) 0 0))) (fun (y3:Int)=>some (Sum.inr (x.fst,x.snd.fst,x.snd.snd,y0,y3,qq.mk 0 (lit []) 0 0))) y1).bind fun (y4:ByteArray×Int×Int×ByteArray×Int×qq⊕ByteArray×Int×Int×ByteArray×Int×qq)=>Sum.elim (fun (y5:zqB)=>if decide (1099511627776 < y5.snd.snd.snd.snd.fst)=true then some (qq.mk 0 (lit []) 0 0,12) else if decide (1 < (↑(ByteArray.size y5.snd.snd.snd.fst):Int))=true then (Z0 y5.snd.snd.snd.fst 0).bind fun (y6:Int)=>if decide (y6=48)=true then some (qq.mk 0 (lit []) 0 0,12) else if decide (y5.snd.snd.fst < (↑(ByteArray.size y5.fst):Int))=true then (Z0 y5.fst y5.snd.snd.fst).bind fun (y7:Int)=>(f5 y7).bind fun (y8:Bool)=>if y8=true then some (qq.mk 0 (lit []) 0 0,12) else some (qq.mk 3 y5.snd.snd.snd.fst y5.snd.snd.snd.snd.fst y5.snd.fst,0) else some (qq.mk 3 y5.snd.snd.snd.fst y5.snd.snd.snd.snd.fst y5.snd.fst,0) else if decide (y5.snd.snd.fst < (↑(ByteArray.size y5.fst):Int))=true then (Z0 y5.fst y5.snd.snd.fst).bind fun (y9:Int)=>(f5 y9).bind fun (y10:Bool)=>if y10=true then some (qq.mk 0 (lit []) 0 0,12) else some (qq.mk 3 y5.snd.snd.snd.fst y5.snd.snd.snd.snd.fst y5.snd.fst,0) else some (qq.mk 3 y5.snd.snd.snd.fst y5.snd.snd.snd.snd.fst y5.snd.fst,0)) (fun (y11:zqB)=>some (qq.mk 0 (lit []) 0 0,12)) y4
noncomputable def qcx:zP→Option (qq×Int):=qdm lpW zh F4 q8n
noncomputable def WX:zP→Option (qq×Int):=P6.F
instance tw_lex_number (x):LC (qcx x) (WX x):=by
  rw [show WX x=qdm lpO zg F4 Xi x from by kernel_rfl]
  unfold qcx qdm
  infer_instance
noncomputable def qdn (L:zc) (G:zf) (f5:zV) (f2:zV) (x:Int):Option Bool:=((f5 x).bind fun (y0:Bool)=>if y0=true then some true else (f2 x).bind fun (y1:Bool)=>some y1).bind fun (y2:Bool)=>some y2
noncomputable def qcy:zV:=qdn lpW zh q8n q7b
noncomputable def WY:zV:=P7.F
instance tw_lex_within (x):LC (qcy x) (WY x):=by
  rw [show WY x=qdn lpO zg Xi xS x from by kernel_rfl]
  unfold qcy qdn
  infer_instance
noncomputable def q8g (L:zc) (G:zf) (f7:zV):zW→Option (Step zW Int):=fun (y0:zW)=>(if decide (y0.snd < (↑(ByteArray.size y0.fst):Int))=true then (Z0 y0.fst y0.snd).bind fun (y1:Int)=>(f7 y1).bind fun (y2:Bool)=>some (y0.fst,y0.snd,y2) else some (y0.fst,y0.snd,false)).bind fun (y3:zg6)=>if y3.snd.snd=true then some (Step.next (y3.fst,IntKind.i64.wrap (y3.snd.fst+1))) else some (Step.done y3.snd.fst)
noncomputable def qcc (L:zc) (G:zf) (f7:zV) (x:zW):Option Int:=(L ((q8g L G) f7) x).bind fun (y4:Int)=>some y4
noncomputable def qa9:zW→Option Int:=qcc lpW zh qcy
noncomputable def XD:zW→Option Int:=P8.F
instance (y):LC (q8g lpW zh qcy y) (q8g lpO zg WY y):=by
  unfold q8g
  infer_instance
instance tw_lex_run_within (x):LC (qa9 x) (XD x):=by
  rw [show XD x=qcc lpO zg WY x from by kernel_rfl]
  unfold qa9 qcc
  infer_instance
noncomputable def qdz (L:zc) (G:zf) (x:Zy):Option Bool:=(if decide (x=lit [116,121,112,101])=true then some (decide (x=lit [116,121,112,101])) else (if decide (x=lit [102,110])=true then some (decide (x=lit [102,110])) else (if decide (x=lit [111,119,110])=true then some (decide (x=lit [111,119,110])) else (if decide (x=lit [99,101,108,108])=true then some (decide (x=lit [99,101,108,108])) else (if decide (x=lit [99,111,117,110,116,101,100])=true then some (decide (x=lit [99,111,117,110,116,101,100])) else (if decide (x=lit [108,111,99,107])=true then some (decide (x=lit [108,111,99,107])) else (if decide (x=lit [103,117,97,114,100])=true then some (decide (x=lit [103,117,97,114,100])) else (if decide (x=lit [119,104,101,114,101])=true then some (decide (x=lit [119,104,101,114,101])) else (if decide (x=lit [105,110,116])=true then some (decide (x=lit [105,110,116])) else (if decide (x=lit [109,117,116])=true then some (decide (x=lit [109,117,116])) else (if decide (x=lit [102,114,101,101])=true then some (decide (x=lit [102,114,101,101])) else (if decide (x=lit [117,110,108,111,99,107])=true then some (decide (x=lit [117,110,108,111,99,107])) else (if decide (x=lit [105,102])=true then some (decide (x=lit [105,102])) else (if decide (x=lit [101,108,115,101])=true then some (decide (x=lit [101,108,115,101])) else (if decide (x=lit [119,104,105,108,101])=true then some (decide (x=lit [119,104,105,108,101])) else (if decide (x=lit [114,101,116,117,114,110])=true then some (decide (x=lit [114,101,116,117,114,110])) else (if decide (x=lit [97,98,111,114,116])=true then some (decide (x=lit [97,98,111,114,116])) else (if decide (x=lit [102,111,114,107])=true then some (decide (x=lit [102,111,114,107])) else (if decide (x=lit [110,101,119])=true then some (decide (x=lit [110,101,119])) else some (decide (x=lit [97,114,114,97,121]))).bind fun (y0:Bool)=>some y0).bind fun (y1:Bool)=>some y1).bind fun (y2:Bool)=>some y2).bind fun (y3:Bool)=>some y3).bind fun (y4:Bool)=>some y4).bind fun (y5:Bool)=>some y5).bind fun (y6:Bool)=>some y6).bind fun (y7:Bool)=>some y7).bind fun (y8:Bool)=>some y8).bind fun (y9:Bool)=>some y9).bind fun (y10:Bool)=>some y10).bind fun (y11:Bool)=>some y11).bind fun (y12:Bool)=>some y12).bind fun (y13:Bool)=>some y13).bind fun (y14:Bool)=>some y14).bind fun (y15:Bool)=>some y15).bind fun (y16:Bool)=>some y16).bind fun (y17:Bool)=>some y17).bind fun (y18:Bool)=>if y18=true then some true else some false
noncomputable def qe6:zac:=qdz lpW zh
noncomputable def zav:zac:=P9.F
instance tw_lex_IsKey (x):LC (qe6 x) (zav x):=by
  rw [show zav x=qdz lpO zg x from by kernel_rfl]
  unfold qe6 qdz
  repeat (first | infer_instance | refine LCb ?_ fun _=>?_ | refine LCi ?_ ?_ | refine LCe (fun _=>?_) fun _=>?_)
noncomputable def qe7 (L:zc) (G:zf) (f9:zac) (x:zP):Option (qq×Int):=(yY x.fst x.snd.fst x.snd.snd).bind fun (y0:Zy)=>if decide (16 < (↑y0.size:Int))=true then some (qq.mk 0 (lit []) 0 0,13) else (f9 y0).bind fun (y1:Bool)=>(if y1=true then some (qq.mk 0 (lit []) 0 0,qq.mk 2 y0 0 x.snd.fst) else some (qq.mk 0 (lit []) 0 0,qq.mk 1 y0 0 x.snd.fst)).bind fun (y2:qq×qq)=>some (y2.snd,0)
noncomputable def qdv:zP→Option (qq×Int):=qe7 lpW zh qe6
noncomputable def Vc:zP→Option (qq×Int):=P10.F
instance tw_lex_word (x):LC (qdv x) (Vc x):=by
  rw [show Vc x=qe7 lpO zg zav x from by kernel_rfl]
  unfold qdv qe7
  infer_instance
noncomputable def q25 (L:zc) (G:zf) (x:wN):Option Bool:=(if decide ((↑(ByteArray.size x.snd):Int)≤(↑(ByteArray.size x.fst):Int))=true then (yY x.fst 0 (↑(ByteArray.size x.snd):Int)).bind fun (y0:Zy)=>some (decide (y0=x.snd)) else some false).bind fun (y1:Bool)=>some y1
noncomputable def q2d:wN→Option Bool:=q25 lpW zh
noncomputable def Z9:wN→Option Bool:=P11.F
instance tw_internal_stringslite_HasPrefix (x):LC (q2d x) (Z9 x):=by
  rw [show Z9 x=q25 lpO zg x from by kernel_rfl]
  unfold q2d q25
  infer_instance
noncomputable def qaa (L:zc) (G:zf) (f11:zlU) (x:wN):Option Bool:=(f11 x).bind fun (y0:Bool)=>some y0
noncomputable def q68:wN→Option Bool:=qaa lpW zh q2d
noncomputable def xc:wN→Option Bool:=P12.F
instance tw_strings_HasPrefix (x):LC (q68 x) (xc x):=by
  rw [show xc x=qaa lpO zg Z9 x from by kernel_rfl]
  unfold q68 qaa
  infer_instance
noncomputable def qdg (L:zc) (G:zf) (f12:zlU) (f13:WT):zlr→Option (Step zlr (ByteArray⊕ByteArray)):=fun (y0:zlr)=>if decide (y0.snd.snd < 3)=true then (zcd [y0.snd.fst.fst,y0.snd.fst.snd.fst,y0.snd.fst.snd.snd] y0.snd.snd).bind fun (y1:Zy)=>(f12 (y0.fst,y1)).bind fun (y2:Bool)=>if y2=true then some (Step.done (Sum.inl y1)) else some (Step.next (y0.fst,y0.snd.fst,IntKind.i64.wrap (y0.snd.snd+1))) else some (Step.done (Sum.inr y0.fst))
noncomputable def qe8 (L:zc) (G:zf) (f12:zlU) (f13:WT) (x:Zy):Option ByteArray:=(L ((qdg L G) f12 f13) (x,(lit [45,62],lit [60,61],lit [61,61]),0)).bind fun (y3:ByteArray⊕ByteArray)=>Sum.elim (fun (y4:Zy)=>some y4) (fun (y5:Zy)=>(Z0 y5 0).bind fun (y6:Int)=>(f13 (lit [123,125,40,41,91,93,44,58,59,61,43,45,38,60],y6)).bind fun (y7:Int)=>if decide (0≤y7)=true then (yY y5 0 1).bind fun (y8:Zy)=>some y8 else some (lit [])) y3
noncomputable def qdw:zg1:=qe8 lpW zh q68 F13
noncomputable def Vd:zg1:=P14.F
instance (y):LC (qdg lpW zh q68 F13 y) (qdg lpO zg xc F13 y):=by
  unfold qdg
  infer_instance
instance tw_lex_sign (x):LC (qdw x) (Vd x):=by
  rw [show Vd x=qe8 lpO zg xc F13 x from by kernel_rfl]
  unfold qdw qe8
  infer_instance
noncomputable def qcj (L:zc) (G:zf) (f1:WT) (f2:zV) (f3:WT) (f6:zgN) (f5:zV) (f8:WT) (f10:zgN) (f14:zg1):ze6→Option (Step ze6 zqV):=fun (y0:ze6)=>if decide (y0.snd.fst < (↑(ByteArray.size y0.fst):Int))=true then ((Z0 y0.fst y0.snd.fst).bind fun (y1:Int)=>(if decide (y1=32)=true then some (y0.fst,y0.snd.fst,0,y1,true,y0.snd.snd,qq.mk 0 (lit []) 0 0) else some (y0.fst,y0.snd.fst,0,y1,decide (y1=10),y0.snd.snd,qq.mk 0 (lit []) 0 0)).bind fun (y2:ByteArray×Int×Int×Int×Bool×Sl qq×qq)=>(if y2.snd.snd.snd.snd.fst=true then some (Sum.inl (y2.fst,IntKind.i64.wrap (y2.snd.fst+1),y2.snd.snd.snd.snd.snd.fst)) else if decide (y2.snd.snd.snd.fst=35)=true then (f1 (y2.fst,y2.snd.fst)).bind fun (y3:Int)=>some (Sum.inl (y2.fst,y3,y2.snd.snd.snd.snd.snd.fst)) else (f2 y2.snd.snd.snd.fst).bind fun (y4:Bool)=>(if y4=true then (f3 (y2.fst,y2.snd.fst)).bind fun (y5:Int)=>(f6 (y2.fst,y2.snd.fst,y5)).bind fun (y6:qq×Int)=>some (y2.fst,y2.snd.fst,y6.snd,y2.snd.snd.snd.snd.snd.fst,y6.fst) else (f5 y2.snd.snd.snd.fst).bind fun (y7:Bool)=>(if y7=true then (f8 (y2.fst,y2.snd.fst)).bind fun (y8:Int)=>(f10 (y2.fst,y2.snd.fst,y8)).bind fun (y9:qq×Int)=>some (y2.fst,y2.snd.fst,y9.snd,y2.snd.snd.snd.snd.snd.fst,y9.fst) else (yY y2.fst y2.snd.fst (↑(ByteArray.size y2.fst):Int)).bind fun (y10:Zy)=>(f14 y10).bind fun (y11:Zy)=>(if decide (y11=lit [])=true then some (y2.fst,y2.snd.fst,11,y2.snd.snd.snd.snd.snd.fst,qq.mk 4 y11 0 y2.snd.fst) else some (y2.fst,y2.snd.fst,y2.snd.snd.fst,y2.snd.snd.snd.snd.snd.fst,qq.mk 4 y11 0 y2.snd.fst)).bind fun (y12:zgU)=>some y12).bind fun (y13:zgU)=>some y13).bind fun (y14:zgU)=>some (Sum.inr y14)).bind fun (y15:ByteArray×Int×Sl qq⊕ByteArray×Int×Int×Sl qq×qq)=>Sum.elim (fun (y16:ze6)=>some (Sum.inl y16)) (fun (y17:zgU)=>if decide (y17.snd.snd.fst≠0)=true then some (Sum.inr (y17.snd.fst,y17.snd.snd.fst)) else (zA 40 y17.snd.snd.snd.fst [y17.snd.snd.snd.snd]).bind fun (y18:Sl qq)=>some (Sum.inl (y17.fst,IntKind.i64.wrap (y17.snd.fst+(↑y17.snd.snd.snd.snd.Text_.size:Int)),y18))) y15).bind fun (y19:ByteArray×Int×Sl qq⊕Int×Int)=>Sum.elim (fun (y20:ze6)=>some (Step.next y20)) (fun (y21:zT)=>some (Step.done (Sum.inl y21))) y19 else some (Step.done (Sum.inr (y0.fst,y0.snd.snd)))
noncomputable def qdo (L:zc) (G:zf) (f1:WT) (f2:zV) (f3:WT) (f6:zgN) (f5:zV) (f8:WT) (f10:zgN) (f14:zg1) (x:Zy):Option zmp:=(if decide (16384 < (↑x.size:Int))=true then some (0,10,Sl.mk [] false) else (L ((qcj L G) f1 f2 f3 f6 f5 f8 f10 f14) (x,0,Sl.mk [] false)).bind fun (y22:zqV)=>Sum.elim (fun (y23:zT)=>some (y23.fst,y23.snd,Sl.mk [] false)) (fun (y24:ByteArray×Sl qq)=>(zA 40 y24.snd [qq.mk 0 (lit []) 0 (↑(ByteArray.size y24.fst):Int)]).bind fun (y25:Sl qq)=>some (0,0,y25)) y22).bind fun (y26:zmp)=>some y26
noncomputable def qcz:zgR:=qdo lpW zh q8f q7b qbl qcx q8n qa9 qdv qdw
noncomputable def WZ:zgR:=P15.F
instance (y):LC (qcj lpW zh q8f q7b qbl qcx q8n qa9 qdv qdw y) (qcj lpO zg x3 xS wg WX Xi XD Vc Vd y):=by
  unfold qcj
  infer_instance
instance tw_lex_Tokens (x):LC (qcz x) (WZ x):=by
  rw [show WZ x=qdo lpO zg x3 xS wg WX Xi XD Vc Vd x from by kernel_rfl]
  unfold qcz qdo
  infer_instance
noncomputable def q8o (L:zc) (G:zf) (x:q6):Option (qq×q6):=(ze x.tokens_ 0).bind fun (y0:qq)=>some (y0,x)
noncomputable def q15:XC:=q8o lpW zh
noncomputable def zF:XC:=P16.F
instance tw_syntax_parser_peek (x):LC (q15 x) (zF x):=by
  rw [show zF x=q8o lpO zg x from by kernel_rfl]
  unfold q15 q8o
  infer_instance
noncomputable def qb5 (L:zc) (G:zf) (f16:XC) (x:WW):Option zH:=(f16 x.snd).bind fun (y0:qq×q6)=>(if decide (y0.fst.Kind_=2)=true then some (decide (y0.fst.Text_=x.fst),y0.snd) else if decide (y0.fst.Kind_=4)=true then some (decide (y0.fst.Text_=x.fst),y0.snd) else some (false,y0.snd)).bind fun (y1:zH)=>some y1
noncomputable def q1j:WW→Option zH:=qb5 lpW zh q15
noncomputable def Zm:WW→Option zH:=P17.F
instance tw_syntax_parser_is (x):LC (q1j x) (Zm x):=by
  rw [show Zm x=qb5 lpO zg zF x from by kernel_rfl]
  unfold q1j qb5
  infer_instance
noncomputable def qab (L:zc) (G:zf) (f17:Zx) (x:WW):Option zH:=(f17 x).bind fun (y0:zH)=>if (!y0.fst)=true then some (false,y0.snd) else (z6 y0.snd.tokens_ 1 y0.snd.tokens_.len).bind fun (y1:Sl qq)=>some (true,q6.mk y1 y0.snd.deep_)
noncomputable def qy:WW→Option zH:=qab lpW zh q1j
noncomputable def zm:WW→Option zH:=P18.F
instance tw_syntax_parser_has (x):LC (qy x) (zm x):=by
  rw [show zm x=qab lpO zg Zm x from by kernel_rfl]
  unfold qy qab
  infer_instance
noncomputable def q8p (L:zc) (G:zf) (f16:XC) (x:Int×q6):Option zj:=(f16 x.snd).bind fun (y0:qq×q6)=>some ((y0.fst.At_,x.fst),y0.snd)
noncomputable def q1c:(Int×q6)→Option zj:=q8p lpW zh q15
noncomputable def zX:(Int×q6)→Option zj:=P19.F
instance tw_syntax_parser_fail (x):LC (q1c x) (zX x):=by
  rw [show zX x=q8p lpO zg zF x from by kernel_rfl]
  unfold q1c q8p
  infer_instance
noncomputable def q8q (L:zc) (G:zf) (f16:XC) (f19:V9) (x:Int×q6):Option ze5:=(f16 x.snd).bind fun (y0:qq×q6)=>if decide (y0.fst.Kind_≠x.fst)=true then (f19 (20,y0.snd)).bind fun (y1:zj)=>some (Sum.inl y1) else (z6 y0.snd.tokens_ 1 y0.snd.tokens_.len).bind fun (y2:Sl qq)=>some (Sum.inr (y0.fst,q6.mk y2 y0.snd.deep_))
noncomputable def q56:(Int×q6)→Option ze5:=q8q lpW zh q15 q1c
noncomputable def YG:(Int×q6)→Option ze5:=P20.F
instance tw_syntax_parser_take (x):LC (q56 x) (YG x):=by
  rw [show YG x=q8q lpO zg zF zX x from by kernel_rfl]
  unfold q56 q8q
  infer_instance
noncomputable def q8r (L:zc) (G:zf) (f20:zqy) (x:q6):Option Z1:=(f20 (1,x)).bind fun (y0:ze5)=>Sum.elim (fun (y1:zj)=>some (Sum.inl y1)) (fun (y2:qq×q6)=>some (Sum.inr ((5,y2.fst.Text_,0,y2.fst.At_),y2.snd))) y0
noncomputable def q1a:We:=q8r lpW zh q56
noncomputable def zM:We:=P21.F
instance tw_syntax_parser_name (x):LC (q1a x) (zM x):=by
  rw [show zM x=q8r lpO zg YG x from by kernel_rfl]
  unfold q1a q8r
  infer_instance
noncomputable def q8s (L:zc) (G:zf) (f18:Zx) (f19:V9) (x:WW):Option Z5:=(f18 x).bind fun (y0:zH)=>if (!y0.fst)=true then (f19 (20,y0.snd)).bind fun (y1:zj)=>some (Sum.inl y1) else some (Sum.inr y0.snd)
noncomputable def q13:WW→Option Z5:=q8s lpW zh qy q1c
noncomputable def zD:WW→Option Z5:=P22.F
instance tw_syntax_parser_must (x):LC (q13 x) (zD x):=by
  rw [show zD x=q8s lpO zg zm zX x from by kernel_rfl]
  unfold q13 q8s
  infer_instance
noncomputable def q8t (L:zc) (G:zf) (f16:XC) (f18:Zx) (f22:wc) (f21:We) (x:q6):Option zl6:=(f16 x).bind fun (y0:qq×q6)=>(f16 y0.snd).bind fun (y1:qq×q6)=>(f18 (lit [105,110,116],y1.snd)).bind fun (y2:zH)=>if y2.fst=true then some (Sum.inl (q8.mk 8 y0.fst.Text_ 0 y1.fst.At_ (Sl.mk [] false),y2.snd)) else (f18 (lit [111,119,110],y2.snd)).bind fun (y3:zH)=>(if y3.fst=true then some (Sum.inl (y3.snd,(0,lit [],0,0),8,y0.fst.Text_,0,y1.fst.At_)) else (f22 (lit [38],y3.snd)).bind fun (y4:Z5)=>Sum.elim (fun (y5:zj)=>some (Sum.inr y5)) (fun (y6:q6)=>(f18 (lit [109,117,116],y6)).bind fun (y7:zH)=>(if y7.fst=true then some (y7.snd,(0,lit [],0,0),8,lit [38,109,117,116],0,y1.fst.At_) else some (y7.snd,(0,lit [],0,0),8,y0.fst.Text_,0,y1.fst.At_)).bind fun (y8:wL)=>some (Sum.inl y8)) y4).bind fun (y9:q6×(Int×ByteArray×Int×Int)×Int×ByteArray×Int×Int⊕zT×q6)=>Sum.elim (fun (y10:wL)=>(f21 y10.fst).bind fun (y11:Z1)=>Sum.elim (fun (y12:zj)=>some (Sum.inr y12)) (fun (y13:yO)=>some (Sum.inl (q8.mk y10.snd.snd.fst y10.snd.snd.snd.fst y10.snd.snd.snd.snd.fst y10.snd.snd.snd.snd.snd (Sl.mk [q8.mk y13.fst.fst y13.fst.snd.fst y13.fst.snd.snd.fst y13.fst.snd.snd.snd (Sl.mk [] false)] true),y13.snd))) y11) (fun (y14:zj)=>some (Sum.inr y14)) y9
noncomputable def q57:zgO:=q8t lpW zh q15 qy q13 q1a
noncomputable def YH:zgO:=P23.F
instance tw_syntax_parser_mode (x):LC (q57 x) (YH x):=by
  rw [show YH x=q8t lpO zg zF zm zD zM x from by kernel_rfl]
  unfold q57 q8t
  infer_instance
noncomputable def q7c (L:zc) (G:zf) (f21:We) (f22:wc) (f23:zgO) (x:q6):Option Zb:=(f21 x).bind fun (y0:Z1)=>Sum.elim (fun (y1:zj)=>some (Sum.inl y1)) (fun (y2:yO)=>(f22 (lit [58],y2.snd)).bind fun (y3:Z5)=>Sum.elim (fun (y4:zj)=>some (Sum.inl y4)) (fun (y5:q6)=>(f23 y5).bind fun (y6:zl6)=>Sum.elim (fun (y7:q8×q6)=>some (Sum.inr ((7,y2.fst.snd),y7.snd,Sl.mk [q8.mk y7.fst.Kind_ y7.fst.Text_ y7.fst.Num_ y7.fst.At_ y7.fst.Kids_] true))) (fun (y8:zj)=>some (Sum.inl y8)) y6) y3) y0
noncomputable def q4b:ZS:=q7c lpW zh q1a q13 q57
noncomputable def Yd:ZS:=P24.F
instance tw_syntax_parser_param (x):LC (q4b x) (Yd x):=by
  rw [show Yd x=q7c lpO zg zM zD YH x from by kernel_rfl]
  unfold q4b q7c
  infer_instance
noncomputable def q23 (L:zc) (G:zf) (f24:ZS) (f18:Zx):yk→Option (Step yk Yc):=fun (y3:yk)=>(f18 (lit [44],y3.fst)).bind fun (y4:zH)=>if y4.fst=true then (f24 y4.snd).bind fun (y5:Zb)=>Sum.elim (fun (y6:zj)=>some (Step.done (Sum.inl y6))) (fun (y7:xZ)=>(zA 64 y3.snd [q8.mk y7.fst.fst y7.fst.snd.fst y7.fst.snd.snd.fst y7.fst.snd.snd.snd y7.snd.snd]).bind fun (y8:Sl q8)=>some (Step.next (y7.snd.fst,y8))) y5 else some (Step.done (Sum.inr (y4.snd,y3.snd)))
noncomputable def q43 (L:zc) (G:zf) (f24:ZS) (f18:Zx) (x:q6):Option Yc:=(f24 x).bind fun (y0:Zb)=>Sum.elim (fun (y1:zj)=>some (Sum.inl y1)) (fun (y2:xZ)=>(L ((q23 L G) f24 f18) (y2.snd.fst,Sl.mk [q8.mk y2.fst.fst y2.fst.snd.fst y2.fst.snd.snd.fst y2.fst.snd.snd.snd y2.snd.snd] true)).bind fun (y9:Yc)=>Sum.elim (fun (y10:zj)=>some (Sum.inl y10)) (fun (y11:yk)=>some (Sum.inr y11)) y9) y0
noncomputable def q50:xD:=q43 lpW zh q4b qy
noncomputable def Yw:xD:=P25.F
instance (y):LC (q23 lpW zh q4b qy y) (q23 lpO zg Yd zm y):=by
  unfold q23
  infer_instance
instance tw_syntax_parser_list_param (x):LC (q50 x) (Yw x):=by
  rw [show Yw x=q43 lpO zg Yd zm x from by kernel_rfl]
  unfold q50 q43
  infer_instance
noncomputable def q6k (L:zc) (G:zf) (x:q8×Int):Option (q8×Int):=some (q8.mk x.fst.Kind_ x.fst.Text_ x.fst.Num_ x.snd x.fst.Kids_,x.snd)
noncomputable def q7d:(q8×Int)→Option (q8×Int):=q6k lpW zh
noncomputable def xT:(q8×Int)→Option (q8×Int):=P26.F
instance tw_syntax_parser_stmt_1 (x):LC (q7d x) (xT x):=by
  rw [show xT x=q6k lpO zg x from by kernel_rfl]
  unfold q7d q6k
  infer_instance
noncomputable def q7e (L:zc) (G:zf) (f22:wc) (x:q8×q6):Option ZM:=(f22 (lit [59],x.snd)).bind fun (y0:Z5)=>Sum.elim (fun (y1:zj)=>some (Sum.inl y1)) (fun (y2:q6)=>some (Sum.inr (q8.mk x.fst.Kind_ x.fst.Text_ x.fst.Num_ x.fst.At_ x.fst.Kids_,y2))) y0
noncomputable def q8u:(q8×q6)→Option ZM:=q7e lpW zh q13
noncomputable def Xj:(q8×q6)→Option ZM:=P27.F
instance tw_syntax_parser_ended (x):LC (q8u x) (Xj x):=by
  rw [show Xj x=q7e lpO zg zD x from by kernel_rfl]
  unfold q8u q7e
  infer_instance
noncomputable def q6l (L:zc) (G:zf) (f20:zqy) (x:Int×q6):Option v6:=(f20 (3,x.snd)).bind fun (y0:ze5)=>Sum.elim (fun (y1:zj)=>some (Sum.inl y1)) (fun (y2:qq×q6)=>some (Sum.inr (IntKind.i64.wrap (x.fst * y2.fst.Num_),y2.snd))) y0
noncomputable def q1s:(Int×q6)→Option v6:=q6l lpW zh q56
noncomputable def ZH:(Int×q6)→Option v6:=P28.F
instance tw_syntax_parser_number (x):LC (q1s x) (ZH x):=by
  rw [show ZH x=q6l lpO zg YG x from by kernel_rfl]
  unfold q1s q6l
  infer_instance
noncomputable def qb6 (L:zc) (G:zf) (f21:We) (f22:wc) (f28:zgJ) (x:Int×q6):Option Z1:=(f21 x.snd).bind fun (y0:Z1)=>Sum.elim (fun (y1:zj)=>some (Sum.inl y1)) (fun (y2:yO)=>(f22 (lit [91],y2.snd)).bind fun (y3:Z5)=>Sum.elim (fun (y4:zj)=>some (Sum.inl y4)) (fun (y5:q6)=>(f28 (1,y5)).bind fun (y6:v6)=>Sum.elim (fun (y7:zj)=>some (Sum.inl y7)) (fun (y8:Int×q6)=>(f22 (lit [93],y8.snd)).bind fun (y9:Z5)=>Sum.elim (fun (y10:zj)=>some (Sum.inl y10)) (fun (y11:q6)=>some (Sum.inr ((x.fst,y2.fst.snd.fst,y8.fst,y2.fst.snd.snd.snd),y11))) y9) y6) y3) y0
noncomputable def qbp:(Int×q6)→Option Z1:=qb6 lpW zh q1a q13 q1s
noncomputable def wy:(Int×q6)→Option Z1:=P29.F
instance tw_syntax_parser_at (x):LC (qbp x) (wy x):=by
  rw [show wy x=qb6 lpO zg zM zD ZH x from by kernel_rfl]
  unfold qbp qb6
  infer_instance
noncomputable def q8v (L:zc) (G:zf) (f18:Zx) (f28:zgJ) (x:q8×q6):Option ZM:=(f18 (lit [43],x.snd)).bind fun (y0:zH)=>(if y0.fst=true then (f28 (1,y0.snd)).bind fun (y1:v6)=>Sum.elim (fun (y2:zj)=>some (Sum.inl y2)) (fun (y3:Int×q6)=>some (Sum.inr (y3.snd,q8.mk x.fst.Kind_ x.fst.Text_ y3.fst x.fst.At_ x.fst.Kids_,0,lit [],0,0))) y1 else (f18 (lit [45],y0.snd)).bind fun (y4:zH)=>(if y4.fst=true then (f28 (-1,y4.snd)).bind fun (y5:v6)=>Sum.elim (fun (y6:zj)=>some (Sum.inl y6)) (fun (y7:Int×q6)=>some (Sum.inr (y7.snd,q8.mk x.fst.Kind_ x.fst.Text_ y7.fst x.fst.At_ x.fst.Kids_,0,lit [],0,0))) y5 else some (Sum.inr (y4.snd,q8.mk x.fst.Kind_ x.fst.Text_ x.fst.Num_ x.fst.At_ x.fst.Kids_,0,lit [],0,0))).bind fun (y8:zqp)=>Sum.elim (fun (y9:zj)=>some (Sum.inl y9)) (fun (y10:zgT)=>some (Sum.inr (y10.fst,q8.mk y10.snd.fst.Kind_ y10.snd.fst.Text_ y10.snd.fst.Num_ y10.snd.fst.At_ y10.snd.fst.Kids_,y10.snd.snd))) y8).bind fun (y11:zqp)=>Sum.elim (fun (y12:zj)=>some (Sum.inl y12)) (fun (y13:zgT)=>some (Sum.inr (q8.mk y13.snd.fst.Kind_ y13.snd.fst.Text_ y13.snd.fst.Num_ y13.snd.fst.At_ y13.snd.fst.Kids_,y13.fst))) y11
noncomputable def q58:(q8×q6)→Option ZM:=q8v lpW zh qy q1s
noncomputable def YI:(q8×q6)→Option ZM:=P30.F
instance tw_syntax_parser_more (x):LC (q58 x) (YI x):=by
  rw [show YI x=q8v lpO zg zm ZH x from by kernel_rfl]
  unfold q58 q8v
  infer_instance
noncomputable def q8w (L:zc) (G:zf) (f16:XC) (f28:zgJ) (f18:Zx) (f21:We) (f30:zlH) (x:q6):Option ZM:=(f16 x).bind fun (y0:qq×q6)=>(f16 y0.snd).bind fun (y1:qq×q6)=>(if decide (y1.fst.Kind_=3)=true then (f28 (1,y1.snd)).bind fun (y2:v6)=>Sum.elim (fun (y3:zj)=>some (Sum.inl y3)) (fun (y4:Int×q6)=>some (Sum.inr (Sum.inl (y4.snd,5,lit [],y4.fst,y0.fst.At_)))) y2 else (f18 (lit [45],y1.snd)).bind fun (y5:zH)=>if y5.fst=true then (f28 (-1,y5.snd)).bind fun (y6:v6)=>Sum.elim (fun (y7:zj)=>some (Sum.inl y7)) (fun (y8:Int×q6)=>some (Sum.inr (Sum.inl (y8.snd,5,lit [],y8.fst,y0.fst.At_)))) y6 else some (Sum.inr (Sum.inr (y5.snd,0,lit [],0,0)))).bind fun (y9:zT×q6⊕q6×Int×ByteArray×Int×Int⊕q6×Int×ByteArray×Int×Int)=>Sum.elim (fun (y10:zj)=>some (Sum.inl y10)) (fun (y11:q6×Int×ByteArray×Int×Int⊕q6×Int×ByteArray×Int×Int)=>Sum.elim (fun (y12:vv)=>some (Sum.inr (q8.mk y12.snd.fst y12.snd.snd.fst y12.snd.snd.snd.fst y12.snd.snd.snd.snd (Sl.mk [] false),y12.fst))) (fun (y13:vv)=>((f21 y13.fst).bind fun (y14:Z1)=>Sum.elim (fun (y15:zj)=>some (Sum.inl y15)) (fun (y16:yO)=>(f30 (q8.mk y16.fst.fst y16.fst.snd.fst y16.fst.snd.snd.fst y16.fst.snd.snd.snd (Sl.mk [] false),y16.snd)).bind fun (y17:ZM)=>Sum.elim (fun (y18:zj)=>some (Sum.inl y18)) (fun (y19:q8×q6)=>some (Sum.inr (y19.snd,q8.mk y19.fst.Kind_ y19.fst.Text_ y19.fst.Num_ y19.fst.At_ y19.fst.Kids_))) y17) y14).bind fun (y20:zg4)=>Sum.elim (fun (y21:zj)=>some (Sum.inl y21)) (fun (y22:q6×q8)=>some (Sum.inr (q8.mk y22.snd.Kind_ y22.snd.Text_ y22.snd.Num_ y22.snd.At_ y22.snd.Kids_,y22.fst))) y20) y11) y9
noncomputable def q1k:xE:=q8w lpW zh q15 q1s qy q1a q58
noncomputable def Zn:xE:=P31.F
instance tw_syntax_parser_term (x):LC (q1k x) (Zn x):=by
  rw [show Zn x=q8w lpO zg zF ZH zm zM YI x from by kernel_rfl]
  unfold q1k q8w
  infer_instance
noncomputable def q59 (L:zc) (G:zf) (f18:Zx) (f19:V9):zlE→Option (Step zlE (ByteArray×q6⊕q6)):=fun (y0:zlE)=>if decide (y0.snd.fst < 3)=true then (zcd [y0.fst.fst,y0.fst.snd.fst,y0.fst.snd.snd] y0.snd.fst).bind fun (y1:Zy)=>(f18 (y1,y0.snd.snd)).bind fun (y2:zH)=>if y2.fst=true then some (Step.done (Sum.inl (y1,y2.snd))) else some (Step.next (y0.fst,IntKind.i64.wrap (y0.snd.fst+1),y2.snd)) else some (Step.done (Sum.inr y0.snd.snd))
noncomputable def qac (L:zc) (G:zf) (f18:Zx) (f19:V9) (x:q6):Option zqQ:=(L ((q59 L G) f18 f19) ((lit [60],lit [60,61],lit [61,61]),0,x)).bind fun (y3:ByteArray×q6⊕q6)=>Sum.elim (fun (y4:WW)=>some (Sum.inl y4)) (fun (y5:q6)=>(f19 (20,y5)).bind fun (y6:zj)=>some (Sum.inr y6)) y3
noncomputable def qb7:zlA:=qac lpW zh qy q1c
noncomputable def X5:zlA:=P32.F
instance (y):LC (q59 lpW zh qy q1c y) (q59 lpO zg zm zX y):=by
  unfold q59
  infer_instance
instance tw_syntax_parser_cmp (x):LC (qb7 x) (X5 x):=by
  rw [show X5 x=qac lpO zg zm zX x from by kernel_rfl]
  unfold qb7 qac
  infer_instance
noncomputable def q8x (L:zc) (G:zf) (f31:xE) (f32:zlA) (x:q6):Option Zb:=(f31 x).bind fun (y0:ZM)=>Sum.elim (fun (y1:zj)=>some (Sum.inl y1)) (fun (y2:q8×q6)=>(f32 y2.snd).bind fun (y3:zqQ)=>Sum.elim (fun (y4:WW)=>(f31 y4.snd).bind fun (y5:ZM)=>Sum.elim (fun (y6:zj)=>some (Sum.inl y6)) (fun (y7:q8×q6)=>some (Sum.inr ((4,y4.fst,0,y2.fst.At_),y7.snd,Sl.mk [q8.mk y2.fst.Kind_ y2.fst.Text_ y2.fst.Num_ y2.fst.At_ y2.fst.Kids_,q8.mk y7.fst.Kind_ y7.fst.Text_ y7.fst.Num_ y7.fst.At_ y7.fst.Kids_] true))) y5) (fun (y8:zj)=>some (Sum.inl y8)) y3) y0
noncomputable def q2l:ZS:=q8x lpW zh q1k qb7
noncomputable def yl:ZS:=P33.F
instance tw_syntax_parser_fact (x):LC (q2l x) (yl x):=by
  rw [show yl x=q8x lpO zg Zn X5 x from by kernel_rfl]
  unfold q2l q8x
  infer_instance
noncomputable def q2b (L:zc) (G:zf) (f31:xE) (f18:Zx):yk→Option (Step yk Yc):=fun (y3:yk)=>(f18 (lit [44],y3.fst)).bind fun (y4:zH)=>if y4.fst=true then (f31 y4.snd).bind fun (y5:ZM)=>Sum.elim (fun (y6:zj)=>some (Step.done (Sum.inl y6))) (fun (y7:q8×q6)=>(zA 64 y3.snd [q8.mk y7.fst.Kind_ y7.fst.Text_ y7.fst.Num_ y7.fst.At_ y7.fst.Kids_]).bind fun (y8:Sl q8)=>some (Step.next (y7.snd,y8))) y5 else some (Step.done (Sum.inr (y4.snd,y3.snd)))
noncomputable def q51 (L:zc) (G:zf) (f31:xE) (f18:Zx) (x:q6):Option Yc:=(f31 x).bind fun (y0:ZM)=>Sum.elim (fun (y1:zj)=>some (Sum.inl y1)) (fun (y2:q8×q6)=>(L ((q2b L G) f31 f18) (y2.snd,Sl.mk [q8.mk y2.fst.Kind_ y2.fst.Text_ y2.fst.Num_ y2.fst.At_ y2.fst.Kids_] true)).bind fun (y9:Yc)=>Sum.elim (fun (y10:zj)=>some (Sum.inl y10)) (fun (y11:yk)=>some (Sum.inr y11)) y9) y0
noncomputable def q5a:xD:=q51 lpW zh q1k qy
noncomputable def YJ:xD:=P34.F
instance (y):LC (q2b lpW zh q1k qy y) (q2b lpO zg Zn zm y):=by
  unfold q2b
  infer_instance
instance tw_syntax_parser_list_term (x):LC (q5a x) (YJ x):=by
  rw [show YJ x=q51 lpO zg Zn zm x from by kernel_rfl]
  unfold q5a q51
  infer_instance
noncomputable def q8y (L:zc) (G:zf) (f22:wc) (f18:Zx) (f34:xD) (x:q6):Option Yc:=(f22 (lit [40],x)).bind fun (y0:Z5)=>Sum.elim (fun (y1:zj)=>some (Sum.inl y1)) (fun (y2:q6)=>(f18 (lit [41],y2)).bind fun (y3:zH)=>if y3.fst=true then some (Sum.inr (y3.snd,Sl.mk [] false)) else (f34 y3.snd).bind fun (y4:Yc)=>Sum.elim (fun (y5:zj)=>some (Sum.inl y5)) (fun (y6:yk)=>(f22 (lit [41],y6.fst)).bind fun (y7:Z5)=>Sum.elim (fun (y8:zj)=>some (Sum.inl y8)) (fun (y9:q6)=>some (Sum.inr (y9,y6.snd))) y7) y4) y0
noncomputable def q2m:xD:=q8y lpW zh q13 qy q5a
noncomputable def ym:xD:=P35.F
instance tw_syntax_parser_args (x):LC (q2m x) (ym x):=by
  rw [show ym x=q8y lpO zg zD zm YJ x from by kernel_rfl]
  unfold q2m q8y
  infer_instance
noncomputable def q8z (L:zc) (G:zf) (f16:XC) (f18:Zx) (f28:zgJ) (f21:We) (f31:xE) (f17:Zx) (f35:xD) (f22:wc) (f30:zlH) (x:q6):Option ZM:=(f16 x).bind fun (y0:qq×q6)=>(f18 (lit [110,101,119],y0.snd)).bind fun (y1:zH)=>(if y1.fst=true then (f28 (1,y1.snd)).bind fun (y2:v6)=>Sum.elim (fun (y3:zj)=>some (Sum.inl y3)) (fun (y4:Int×q6)=>some (Sum.inr (Sum.inl (y4.snd,q8.mk 23 (lit []) y4.fst y0.fst.At_ (Sl.mk [] false))))) y2 else (f18 (lit [97,114,114,97,121],y1.snd)).bind fun (y5:zH)=>(if y5.fst=true then (f21 y5.snd).bind fun (y6:Z1)=>Sum.elim (fun (y7:zj)=>some (Sum.inl y7)) (fun (y8:yO)=>some (Sum.inr (Sum.inl (y8.snd,q8.mk 24 y8.fst.snd.fst 0 y0.fst.At_ (Sl.mk [] false))))) y6 else (f18 (lit [38],y5.snd)).bind fun (y9:zH)=>(if y9.fst=true then (f18 (lit [109,117,116],y9.snd)).bind fun (y10:zH)=>(if y10.fst=true then some (y10.snd,(0,lit [],0,0),27,lit [],0,y0.fst.At_) else some (y10.snd,(0,lit [],0,0),26,lit [],0,y0.fst.At_)).bind fun (y11:wL)=>(f21 y11.fst).bind fun (y12:Z1)=>Sum.elim (fun (y13:zj)=>some (Sum.inl y13)) (fun (y14:yO)=>some (Sum.inr (Sum.inl (y14.snd,q8.mk y11.snd.snd.fst y14.fst.snd.fst y11.snd.snd.snd.snd.fst y11.snd.snd.snd.snd.snd (Sl.mk [] false))))) y12 else (f16 y9.snd).bind fun (y15:qq×q6)=>if decide (y15.fst.Kind_≠1)=true then (f31 y15.snd).bind fun (y16:ZM)=>Sum.elim (fun (y17:zj)=>some (Sum.inl y17)) (fun (y18:q8×q6)=>some (Sum.inr (Sum.inl (y18.snd,q8.mk y18.fst.Kind_ y18.fst.Text_ y18.fst.Num_ y18.fst.At_ y18.fst.Kids_)))) y16 else some (Sum.inr (Sum.inr (y15.snd,(0,lit [],0,0),0,lit [],0,y0.fst.At_)))).bind fun (y19:zpE)=>Sum.elim (fun (y20:zj)=>some (Sum.inl y20)) (fun (y21:zlj)=>Sum.elim (fun (y22:q6×q8)=>some (Sum.inr (Sum.inl (y22.fst,q8.mk y22.snd.Kind_ y22.snd.Text_ y22.snd.Num_ y22.snd.At_ y22.snd.Kids_)))) (fun (y23:wL)=>some (Sum.inr (Sum.inr y23))) y21) y19).bind fun (y24:zpE)=>Sum.elim (fun (y25:zj)=>some (Sum.inl y25)) (fun (y26:zlj)=>Sum.elim (fun (y27:q6×q8)=>some (Sum.inr (Sum.inl (y27.fst,q8.mk y27.snd.Kind_ y27.snd.Text_ y27.snd.Num_ y27.snd.At_ y27.snd.Kids_)))) (fun (y28:wL)=>some (Sum.inr (Sum.inr y28))) y26) y24).bind fun (y29:zpE)=>Sum.elim (fun (y30:zj)=>some (Sum.inl y30)) (fun (y31:zlj)=>Sum.elim (fun (y32:q6×q8)=>some (Sum.inr (q8.mk y32.snd.Kind_ y32.snd.Text_ y32.snd.Num_ y32.snd.At_ y32.snd.Kids_,y32.fst))) (fun (y33:wL)=>(f21 y33.fst).bind fun (y34:Z1)=>Sum.elim (fun (y35:zj)=>some (Sum.inl y35)) (fun (y36:yO)=>(f17 (lit [40],y36.snd)).bind fun (y37:zH)=>(if y37.fst=true then (f35 y37.snd).bind fun (y38:Yc)=>Sum.elim (fun (y39:zj)=>some (Sum.inl y39)) (fun (y40:yk)=>some (Sum.inr (Sum.inl (y40.fst,(28,y36.fst.snd),y40.snd)))) y38 else (f18 (lit [91],y37.snd)).bind fun (y41:zH)=>(if y41.fst=true then (f31 y41.snd).bind fun (y42:ZM)=>Sum.elim (fun (y43:zj)=>some (Sum.inl y43)) (fun (y44:q8×q6)=>(f22 (lit [93],y44.snd)).bind fun (y45:Z5)=>Sum.elim (fun (y46:zj)=>some (Sum.inl y46)) (fun (y47:q6)=>some (Sum.inr (Sum.inl (y47,(25,y36.fst.snd),Sl.mk [q8.mk y44.fst.Kind_ y44.fst.Text_ y44.fst.Num_ y44.fst.At_ y44.fst.Kids_] true)))) y45) y42 else some (Sum.inr (Sum.inr (y41.snd,y33.snd.fst,y36.fst)))).bind fun (y48:zpr)=>Sum.elim (fun (y49:zj)=>some (Sum.inl y49)) (fun (y50:zpz)=>Sum.elim (fun (y51:zeX)=>some (Sum.inr (Sum.inl y51))) (fun (y52:wL)=>some (Sum.inr (Sum.inr y52))) y50) y48).bind fun (y53:zpr)=>Sum.elim (fun (y54:zj)=>some (Sum.inl y54)) (fun (y55:zpz)=>Sum.elim (fun (y56:zeX)=>some (Sum.inr (q8.mk y56.snd.fst.fst y56.snd.fst.snd.fst y56.snd.fst.snd.snd.fst y56.snd.fst.snd.snd.snd y56.snd.snd,y56.fst))) (fun (y57:wL)=>(G _ inferInstance (((f17 (lit [43],y57.fst)).bind fun (y58:zH)=>if y58.fst=true then (ze y58.snd.tokens_ 1).bind fun (y59:qq)=>some (lit [43],21,decide (y59.Kind_=1),y58.snd,y57.snd) else some (lit [43],21,false,y58.snd,y57.snd)).bind fun (y60:zle)=>(if y60.snd.snd.fst=true then (f22 (y60.fst,y60.snd.snd.snd.fst)).bind fun (y61:Z5)=>Sum.elim (fun (y62:zj)=>some (Sum.inl (y62.fst,y62.snd,y60.snd.snd.snd.snd))) (fun (y63:q6)=>(f21 y63).bind fun (y64:Z1)=>Sum.elim (fun (y65:zj)=>some (Sum.inl (y65.fst,y65.snd,y60.snd.snd.snd.snd))) (fun (y66:yO)=>some (Sum.inr (Sum.inl (y66.snd,(y60.snd.fst,lit [],0,y60.snd.snd.snd.snd.snd.snd.snd.snd),y60.snd.snd.snd.snd.snd,Sl.mk [q8.mk y60.snd.snd.snd.snd.snd.fst y60.snd.snd.snd.snd.snd.snd.fst y60.snd.snd.snd.snd.snd.snd.snd.fst y60.snd.snd.snd.snd.snd.snd.snd.snd (Sl.mk [] false),q8.mk y66.fst.fst y66.fst.snd.fst y66.fst.snd.snd.fst y66.fst.snd.snd.snd (Sl.mk [] false)] true)))) y64) y61 else some (Sum.inr (Sum.inr y60.snd.snd.snd))).bind fun (y67:tA0)=>Sum.elim (fun (y68:zgE)=>some (Sum.inl (y68.fst,y68.snd.fst))) (fun (y69:zk3)=>Sum.elim (fun (y70:xX)=>some (Sum.inr (Sum.inl (y70.fst,y70.snd.fst,y70.snd.snd.snd)))) (fun (y71:wL)=>((f17 (lit [45],y71.fst)).bind fun (y72:zH)=>if y72.fst=true then (ze y72.snd.tokens_ 1).bind fun (y73:qq)=>some (lit [45],22,decide (y73.Kind_=1),y72.snd,y71.snd) else some (lit [45],22,false,y72.snd,y71.snd)).bind fun (y74:zle)=>(if y74.snd.snd.fst=true then (f22 (y74.fst,y74.snd.snd.snd.fst)).bind fun (y75:Z5)=>Sum.elim (fun (y76:zj)=>some (Sum.inl (y76.fst,y76.snd,y74.snd.snd.snd.snd))) (fun (y77:q6)=>(f21 y77).bind fun (y78:Z1)=>Sum.elim (fun (y79:zj)=>some (Sum.inl (y79.fst,y79.snd,y74.snd.snd.snd.snd))) (fun (y80:yO)=>some (Sum.inr (Sum.inl (y80.snd,(y74.snd.fst,lit [],0,y74.snd.snd.snd.snd.snd.snd.snd.snd),y74.snd.snd.snd.snd.snd,Sl.mk [q8.mk y74.snd.snd.snd.snd.snd.fst y74.snd.snd.snd.snd.snd.snd.fst y74.snd.snd.snd.snd.snd.snd.snd.fst y74.snd.snd.snd.snd.snd.snd.snd.snd (Sl.mk [] false),q8.mk y80.fst.fst y80.fst.snd.fst y80.fst.snd.snd.fst y80.fst.snd.snd.snd (Sl.mk [] false)] true)))) y78) y75 else some (Sum.inr (Sum.inr y74.snd.snd.snd))).bind fun (y81:tA0)=>Sum.elim (fun (y82:zgE)=>some (Sum.inl (y82.fst,y82.snd.fst))) (fun (y83:zk3)=>Sum.elim (fun (y84:xX)=>some (Sum.inr (Sum.inl (y84.fst,y84.snd.fst,y84.snd.snd.snd)))) (fun (y85:wL)=>some (Sum.inr (Sum.inr y85))) y83) y81) y69) y67) (((f17 (lit [45],y57.fst)).bind fun (y86:zH)=>if y86.fst=true then (ze y86.snd.tokens_ 1).bind fun (y87:qq)=>some (lit [45],22,decide (y87.Kind_=1),y86.snd,y57.snd) else some (lit [45],22,false,y86.snd,y57.snd)).bind fun (y88:zle)=>(if y88.snd.snd.fst=true then (f22 (y88.fst,y88.snd.snd.snd.fst)).bind fun (y89:Z5)=>Sum.elim (fun (y90:zj)=>some (Sum.inl (y90.fst,y90.snd,y88.snd.snd.snd.snd))) (fun (y91:q6)=>(f21 y91).bind fun (y92:Z1)=>Sum.elim (fun (y93:zj)=>some (Sum.inl (y93.fst,y93.snd,y88.snd.snd.snd.snd))) (fun (y94:yO)=>some (Sum.inr (Sum.inl (y94.snd,(y88.snd.fst,lit [],0,y88.snd.snd.snd.snd.snd.snd.snd.snd),y88.snd.snd.snd.snd.snd,Sl.mk [q8.mk y88.snd.snd.snd.snd.snd.fst y88.snd.snd.snd.snd.snd.snd.fst y88.snd.snd.snd.snd.snd.snd.snd.fst y88.snd.snd.snd.snd.snd.snd.snd.snd (Sl.mk [] false),q8.mk y94.fst.fst y94.fst.snd.fst y94.fst.snd.snd.fst y94.fst.snd.snd.snd (Sl.mk [] false)] true)))) y92) y89 else some (Sum.inr (Sum.inr y88.snd.snd.snd))).bind fun (y95:tA0)=>Sum.elim (fun (y96:zgE)=>some (Sum.inl (y96.fst,y96.snd.fst))) (fun (y97:zk3)=>Sum.elim (fun (y98:xX)=>some (Sum.inr (Sum.inl (y98.fst,y98.snd.fst,y98.snd.snd.snd)))) (fun (y99:wL)=>((f17 (lit [43],y99.fst)).bind fun (y100:zH)=>if y100.fst=true then (ze y100.snd.tokens_ 1).bind fun (y101:qq)=>some (lit [43],21,decide (y101.Kind_=1),y100.snd,y99.snd) else some (lit [43],21,false,y100.snd,y99.snd)).bind fun (y102:zle)=>(if y102.snd.snd.fst=true then (f22 (y102.fst,y102.snd.snd.snd.fst)).bind fun (y103:Z5)=>Sum.elim (fun (y104:zj)=>some (Sum.inl (y104.fst,y104.snd,y102.snd.snd.snd.snd))) (fun (y105:q6)=>(f21 y105).bind fun (y106:Z1)=>Sum.elim (fun (y107:zj)=>some (Sum.inl (y107.fst,y107.snd,y102.snd.snd.snd.snd))) (fun (y108:yO)=>some (Sum.inr (Sum.inl (y108.snd,(y102.snd.fst,lit [],0,y102.snd.snd.snd.snd.snd.snd.snd.snd),y102.snd.snd.snd.snd.snd,Sl.mk [q8.mk y102.snd.snd.snd.snd.snd.fst y102.snd.snd.snd.snd.snd.snd.fst y102.snd.snd.snd.snd.snd.snd.snd.fst y102.snd.snd.snd.snd.snd.snd.snd.snd (Sl.mk [] false),q8.mk y108.fst.fst y108.fst.snd.fst y108.fst.snd.snd.fst y108.fst.snd.snd.snd (Sl.mk [] false)] true)))) y106) y103 else some (Sum.inr (Sum.inr y102.snd.snd.snd))).bind fun (y109:tA0)=>Sum.elim (fun (y110:zgE)=>some (Sum.inl (y110.fst,y110.snd.fst))) (fun (y111:zk3)=>Sum.elim (fun (y112:xX)=>some (Sum.inr (Sum.inl (y112.fst,y112.snd.fst,y112.snd.snd.snd)))) (fun (y113:wL)=>some (Sum.inr (Sum.inr y113))) y111) y109) y97) y95)).bind fun (y114:zpr)=>Sum.elim (fun (y115:zj)=>some (Sum.inl y115)) (fun (y116:zpz)=>Sum.elim (fun (y117:zeX)=>some (Sum.inr (q8.mk y117.snd.fst.fst y117.snd.fst.snd.fst y117.snd.fst.snd.snd.fst y117.snd.fst.snd.snd.snd y117.snd.snd,y117.fst))) (fun (y118:wL)=>(f30 (q8.mk y118.snd.snd.fst y118.snd.snd.snd.fst y118.snd.snd.snd.snd.fst y118.snd.snd.snd.snd.snd (Sl.mk [] false),y118.fst)).bind fun (y119:ZM)=>Sum.elim (fun (y120:zj)=>some (Sum.inl y120)) (fun (y121:q8×q6)=>some (Sum.inr (q8.mk y121.fst.Kind_ y121.fst.Text_ y121.fst.Num_ y121.fst.At_ y121.fst.Kids_,y121.snd))) y119) y116) y114) y55) y53) y34) y31) y29
noncomputable def qad:xE:=q8z lpW zh q15 qy q1s q1a q1k q1j q2m q13 q58
noncomputable def XF:xE:=F36
instance tw_syntax_parser_expr (x):LC (qad x) (XF x):=by
  rw [show XF x=q8z lpO zg zF zm ZH zM Zn Zm ym zD YI x from by kernel_rfl]
  unfold qad q8z
  repeat (first | infer_instance | refine LCb ?_ fun _=>?_ | refine LCi ?_ ?_ | refine LCe (fun _=>?_) fun _=>?_)
noncomputable def q7f (L:zc) (G:zf) (f17:Zx) (f35:xD) (f18:Zx) (f31:xE) (f22:wc) (f36:xE) (x:q8×q6):Option Zb:=(f17 (lit [40],x.snd)).bind fun (y0:zH)=>(if y0.fst=true then (f35 y0.snd).bind fun (y1:Yc)=>Sum.elim (fun (y2:zj)=>some (Sum.inl y2)) (fun (y3:yk)=>some (Sum.inr (Sum.inl (y3.fst,(20,lit [],0,x.fst.At_),Sl.mk [q8.mk 28 x.fst.Text_ x.fst.Num_ x.fst.At_ y3.snd] true)))) y1 else (f18 (lit [91],y0.snd)).bind fun (y4:zH)=>(if y4.fst=true then (f31 y4.snd).bind fun (y5:ZM)=>Sum.elim (fun (y6:zj)=>some (Sum.inl y6)) (fun (y7:q8×q6)=>(f22 (lit [93],y7.snd)).bind fun (y8:Z5)=>Sum.elim (fun (y9:zj)=>some (Sum.inl y9)) (fun (y10:q6)=>(f22 (lit [61],y10)).bind fun (y11:Z5)=>Sum.elim (fun (y12:zj)=>some (Sum.inl y12)) (fun (y13:q6)=>(f31 y13).bind fun (y14:ZM)=>Sum.elim (fun (y15:zj)=>some (Sum.inl y15)) (fun (y16:q8×q6)=>some (Sum.inr (Sum.inl (y16.snd,(11,x.fst.Text_,x.fst.Num_,x.fst.At_),Sl.mk ([q8.mk y7.fst.Kind_ y7.fst.Text_ y7.fst.Num_ y7.fst.At_ y7.fst.Kids_]++[q8.mk y16.fst.Kind_ y16.fst.Text_ y16.fst.Num_ y16.fst.At_ y16.fst.Kids_]) (true || ![q8.mk y16.fst.Kind_ y16.fst.Text_ y16.fst.Num_ y16.fst.At_ y16.fst.Kids_].isEmpty))))) y14) y11) y8) y5 else some (Sum.inr (Sum.inr (y4.snd,q8.mk x.fst.Kind_ x.fst.Text_ x.fst.Num_ x.fst.At_ x.fst.Kids_,0,lit [],0,0)))).bind fun (y17:ztc)=>Sum.elim (fun (y18:zj)=>some (Sum.inl y18)) (fun (y19:zp4)=>Sum.elim (fun (y20:zeX)=>some (Sum.inr (Sum.inl y20))) (fun (y21:zgT)=>some (Sum.inr (Sum.inr (y21.fst,q8.mk y21.snd.fst.Kind_ y21.snd.fst.Text_ y21.snd.fst.Num_ y21.snd.fst.At_ y21.snd.fst.Kids_,y21.snd.snd)))) y19) y17).bind fun (y22:ztc)=>Sum.elim (fun (y23:zj)=>some (Sum.inl y23)) (fun (y24:zp4)=>Sum.elim (fun (y25:zeX)=>some (Sum.inr (y25.snd.fst,y25.fst,y25.snd.snd))) (fun (y26:zgT)=>(f22 (lit [61],y26.fst)).bind fun (y27:Z5)=>Sum.elim (fun (y28:zj)=>some (Sum.inl y28)) (fun (y29:q6)=>(f36 y29).bind fun (y30:ZM)=>Sum.elim (fun (y31:zj)=>some (Sum.inl y31)) (fun (y32:q8×q6)=>some (Sum.inr ((10,y26.snd.fst.Text_,y26.snd.fst.Num_,y26.snd.fst.At_),y32.snd,Sl.mk [q8.mk y32.fst.Kind_ y32.fst.Text_ y32.fst.Num_ y32.fst.At_ y32.fst.Kids_] true))) y30) y27) y24) y22
noncomputable def q90:(q8×q6)→Option Zb:=q7f lpW zh q1j q2m qy q1k q13 qad
noncomputable def Xk:(q8×q6)→Option Zb:=P37.F
instance tw_syntax_parser_named (x):LC (q90 x) (Xk x):=by
  rw [show Xk x=q7f lpO zg Zm ym zm Zn zD XF x from by kernel_rfl]
  unfold q90 q7f
  infer_instance
noncomputable def q6m (L:zc) (G:zf) (f33:ZS) (f40:ZS) (x:zdq):Option Zb:=(f33 x.snd.snd).bind fun (y0:Zb)=>Sum.elim (fun (y1:zj)=>some (Sum.inl y1)) (fun (y2:xZ)=>(f40 y2.snd.fst).bind fun (y3:Zb)=>Sum.elim (fun (y4:zj)=>some (Sum.inl y4)) (fun (y5:xZ)=>(zA 64 y2.snd.snd [q8.mk y5.fst.fst y5.fst.snd.fst y5.fst.snd.snd.fst y5.fst.snd.snd.snd y5.snd.snd]).bind fun (y6:Sl q8)=>some (Sum.inr ((x.fst,y2.fst.snd.fst,y2.fst.snd.snd.fst,x.snd.fst),y5.snd.fst,y6))) y3) y0
noncomputable def q2x (h:ZS):zdq→Option Zb:=q6m lpW zh q2l h
noncomputable def xl (h:ZS):zdq→Option Zb:=zog h
instance tw_syntax_parser_branchv {h g:q6→Option Zb}[∀ x,LC (h x) (g x)] (x):LC (q2x h x) (xl g x):=by
  rw [show xl g x=q6m lpO zg yl g x from by kernel_rfl]
  unfold q2x q6m
  infer_instance
noncomputable def q91 (L:zc) (G:zf) (f16:XC) (f18:Zx) (f21:We) (f26:q8×Int→Option (q8×Int)) (f27:zlH) (f29:Int×q6→Option Z1) (f38:zdq→Option Zb) (f40:ZS) (f17:Zx) (f31:xE) (f35:xD) (f37:q8×q6→Option Zb) (x:q6):Option ZM:=(f16 x).bind fun (y0:qq×q6)=>(f18 (lit [102,114,101,101],y0.snd)).bind fun (y1:zH)=>(if y1.fst=true then (f21 y1.snd).bind fun (y2:Z1)=>Sum.elim (fun (y3:zj)=>some (Sum.inl y3)) (fun (y4:yO)=>(f26 (q8.mk 12 y4.fst.snd.fst y4.fst.snd.snd.fst y4.fst.snd.snd.snd (Sl.mk [] false),y0.fst.At_)).bind fun (y5:q8×Int)=>(f27 (q8.mk y5.fst.Kind_ y5.fst.Text_ y5.fst.Num_ y5.fst.At_ y5.fst.Kids_,y4.snd)).bind fun (y6:ZM)=>Sum.elim (fun (y7:zj)=>some (Sum.inl y7)) (fun (y8:q8×q6)=>some (Sum.inr (Sum.inl (y8.snd,q8.mk y8.fst.Kind_ y8.fst.Text_ y8.fst.Num_ y8.fst.At_ y8.fst.Kids_)))) y6) y2 else (f18 (lit [108,111,99,107],y1.snd)).bind fun (y9:zH)=>(if y9.fst=true then ((f29 (13,y9.snd)).bind fun (y10:Z1)=>Sum.elim (fun (y11:zj)=>some (Sum.inl y11)) (fun (y12:yO)=>(f26 (q8.mk y12.fst.fst y12.fst.snd.fst y12.fst.snd.snd.fst y12.fst.snd.snd.snd (Sl.mk [] false),y0.fst.At_)).bind fun (y13:q8×Int)=>(f27 (q8.mk y13.fst.Kind_ y13.fst.Text_ y13.fst.Num_ y13.fst.At_ y13.fst.Kids_,y12.snd)).bind fun (y14:ZM)=>Sum.elim (fun (y15:zj)=>some (Sum.inl y15)) (fun (y16:q8×q6)=>some (Sum.inr (y16.snd,q8.mk y16.fst.Kind_ y16.fst.Text_ y16.fst.Num_ y16.fst.At_ y16.fst.Kids_))) y14) y10).bind fun (y17:zg4)=>Sum.elim (fun (y18:zj)=>some (Sum.inl y18)) (fun (y19:q6×q8)=>some (Sum.inr (Sum.inl (y19.fst,q8.mk y19.snd.Kind_ y19.snd.Text_ y19.snd.Num_ y19.snd.At_ y19.snd.Kids_)))) y17 else (f18 (lit [117,110,108,111,99,107],y9.snd)).bind fun (y20:zH)=>(if y20.fst=true then ((f29 (14,y20.snd)).bind fun (y21:Z1)=>Sum.elim (fun (y22:zj)=>some (Sum.inl y22)) (fun (y23:yO)=>(f26 (q8.mk y23.fst.fst y23.fst.snd.fst y23.fst.snd.snd.fst y23.fst.snd.snd.snd (Sl.mk [] false),y0.fst.At_)).bind fun (y24:q8×Int)=>(f27 (q8.mk y24.fst.Kind_ y24.fst.Text_ y24.fst.Num_ y24.fst.At_ y24.fst.Kids_,y23.snd)).bind fun (y25:ZM)=>Sum.elim (fun (y26:zj)=>some (Sum.inl y26)) (fun (y27:q8×q6)=>some (Sum.inr (y27.snd,q8.mk y27.fst.Kind_ y27.fst.Text_ y27.fst.Num_ y27.fst.At_ y27.fst.Kids_))) y25) y21).bind fun (y28:zg4)=>Sum.elim (fun (y29:zj)=>some (Sum.inl y29)) (fun (y30:q6×q8)=>some (Sum.inr (Sum.inl (y30.fst,q8.mk y30.snd.Kind_ y30.snd.Text_ y30.snd.Num_ y30.snd.At_ y30.snd.Kids_)))) y28 else (f18 (lit [105,102],y20.snd)).bind fun (y31:zH)=>(if y31.fst=true then (f38 (15,y0.fst.At_,y31.snd)).bind fun (y32:Zb)=>Sum.elim (fun (y33:zj)=>some (Sum.inl y33)) (fun (y34:xZ)=>(f18 (lit [101,108,115,101],y34.snd.fst)).bind fun (y35:zH)=>(if y35.fst=true then (f40 y35.snd).bind fun (y36:Zb)=>Sum.elim (fun (y37:zj)=>some (Sum.inl y37)) (fun (y38:xZ)=>(zA 64 y34.snd.snd [q8.mk y38.fst.fst y38.fst.snd.fst y38.fst.snd.snd.fst y38.fst.snd.snd.snd y38.snd.snd]).bind fun (y39:Sl q8)=>some (Sum.inr (y38.snd.fst,(0,lit [],0,0),y34.fst,y39))) y36 else (zA 64 y34.snd.snd [q8.mk 9 (lit []) 0 y0.fst.At_ (Sl.mk [] false)]).bind fun (y40:Sl q8)=>some (Sum.inr (y35.snd,(0,lit [],0,0),y34.fst,y40))).bind fun (y41:zbE)=>Sum.elim (fun (y42:zj)=>some (Sum.inl y42)) (fun (y43:xX)=>some (Sum.inr (Sum.inl (y43.fst,q8.mk y43.snd.snd.fst.fst y43.snd.snd.fst.snd.fst y43.snd.snd.fst.snd.snd.fst y43.snd.snd.fst.snd.snd.snd y43.snd.snd.snd)))) y41) y32 else (f18 (lit [119,104,105,108,101],y31.snd)).bind fun (y44:zH)=>(if y44.fst=true then (f38 (16,y0.fst.At_,y44.snd)).bind fun (y45:Zb)=>Sum.elim (fun (y46:zj)=>some (Sum.inl y46)) (fun (y47:xZ)=>some (Sum.inr (Sum.inl (y47.snd.fst,q8.mk y47.fst.fst y47.fst.snd.fst y47.fst.snd.snd.fst y47.fst.snd.snd.snd y47.snd.snd)))) y45 else (f18 (lit [114,101,116,117,114,110],y44.snd)).bind fun (y48:zH)=>(if y48.fst=true then (f17 (lit [59],y48.snd)).bind fun (y49:zH)=>(if (!y49.fst)=true then (f31 y49.snd).bind fun (y50:ZM)=>Sum.elim (fun (y51:zj)=>some (Sum.inl y51)) (fun (y52:q8×q6)=>some (Sum.inr (y52.snd,(0,lit [],0,0),(17,lit [],0,y0.fst.At_),Sl.mk [q8.mk y52.fst.Kind_ y52.fst.Text_ y52.fst.Num_ y52.fst.At_ y52.fst.Kids_] true))) y50 else some (Sum.inr (y49.snd,(0,lit [],0,0),(17,lit [],0,y0.fst.At_),Sl.mk [] false))).bind fun (y53:zbE)=>Sum.elim (fun (y54:zj)=>some (Sum.inl y54)) (fun (y55:xX)=>(f27 (q8.mk y55.snd.snd.fst.fst y55.snd.snd.fst.snd.fst y55.snd.snd.fst.snd.snd.fst y55.snd.snd.fst.snd.snd.snd y55.snd.snd.snd,y55.fst)).bind fun (y56:ZM)=>Sum.elim (fun (y57:zj)=>some (Sum.inl y57)) (fun (y58:q8×q6)=>some (Sum.inr (Sum.inl (y58.snd,q8.mk y58.fst.Kind_ y58.fst.Text_ y58.fst.Num_ y58.fst.At_ y58.fst.Kids_)))) y56) y53 else (f18 (lit [97,98,111,114,116],y48.snd)).bind fun (y59:zH)=>(if y59.fst=true then (f27 (q8.mk 18 (lit []) 0 y0.fst.At_ (Sl.mk [] false),y59.snd)).bind fun (y60:ZM)=>Sum.elim (fun (y61:zj)=>some (Sum.inl y61)) (fun (y62:q8×q6)=>some (Sum.inr (Sum.inl (y62.snd,q8.mk y62.fst.Kind_ y62.fst.Text_ y62.fst.Num_ y62.fst.At_ y62.fst.Kids_)))) y60 else (f18 (lit [102,111,114,107],y59.snd)).bind fun (y63:zH)=>(if y63.fst=true then (f21 y63.snd).bind fun (y64:Z1)=>Sum.elim (fun (y65:zj)=>some (Sum.inl y65)) (fun (y66:yO)=>(f35 y66.snd).bind fun (y67:Yc)=>Sum.elim (fun (y68:zj)=>some (Sum.inl y68)) (fun (y69:yk)=>(f26 (q8.mk 19 y66.fst.snd.fst y66.fst.snd.snd.fst y66.fst.snd.snd.snd y69.snd,y0.fst.At_)).bind fun (y70:q8×Int)=>(f27 (q8.mk y70.fst.Kind_ y70.fst.Text_ y70.fst.Num_ y70.fst.At_ y70.fst.Kids_,y69.fst)).bind fun (y71:ZM)=>Sum.elim (fun (y72:zj)=>some (Sum.inl y72)) (fun (y73:q8×q6)=>some (Sum.inr (Sum.inl (y73.snd,q8.mk y73.fst.Kind_ y73.fst.Text_ y73.fst.Num_ y73.fst.At_ y73.fst.Kids_)))) y71) y67) y64 else some (Sum.inr (Sum.inr (y63.snd,0,lit [],0,0)))).bind fun (y74:V3)=>Sum.elim (fun (y75:zj)=>some (Sum.inl y75)) (fun (y76:V6)=>Sum.elim (fun (y77:q6×q8)=>some (Sum.inr (Sum.inl (y77.fst,q8.mk y77.snd.Kind_ y77.snd.Text_ y77.snd.Num_ y77.snd.At_ y77.snd.Kids_)))) (fun (y78:vv)=>some (Sum.inr (Sum.inr y78))) y76) y74).bind fun (y79:V3)=>Sum.elim (fun (y80:zj)=>some (Sum.inl y80)) (fun (y81:V6)=>Sum.elim (fun (y82:q6×q8)=>some (Sum.inr (Sum.inl (y82.fst,q8.mk y82.snd.Kind_ y82.snd.Text_ y82.snd.Num_ y82.snd.At_ y82.snd.Kids_)))) (fun (y83:vv)=>some (Sum.inr (Sum.inr y83))) y81) y79).bind fun (y84:V3)=>Sum.elim (fun (y85:zj)=>some (Sum.inl y85)) (fun (y86:V6)=>Sum.elim (fun (y87:q6×q8)=>some (Sum.inr (Sum.inl (y87.fst,q8.mk y87.snd.Kind_ y87.snd.Text_ y87.snd.Num_ y87.snd.At_ y87.snd.Kids_)))) (fun (y88:vv)=>some (Sum.inr (Sum.inr y88))) y86) y84).bind fun (y89:V3)=>Sum.elim (fun (y90:zj)=>some (Sum.inl y90)) (fun (y91:V6)=>Sum.elim (fun (y92:q6×q8)=>some (Sum.inr (Sum.inl (y92.fst,q8.mk y92.snd.Kind_ y92.snd.Text_ y92.snd.Num_ y92.snd.At_ y92.snd.Kids_)))) (fun (y93:vv)=>some (Sum.inr (Sum.inr y93))) y91) y89).bind fun (y94:V3)=>Sum.elim (fun (y95:zj)=>some (Sum.inl y95)) (fun (y96:V6)=>Sum.elim (fun (y97:q6×q8)=>some (Sum.inr (Sum.inl (y97.fst,q8.mk y97.snd.Kind_ y97.snd.Text_ y97.snd.Num_ y97.snd.At_ y97.snd.Kids_)))) (fun (y98:vv)=>some (Sum.inr (Sum.inr y98))) y96) y94).bind fun (y99:V3)=>Sum.elim (fun (y100:zj)=>some (Sum.inl y100)) (fun (y101:V6)=>Sum.elim (fun (y102:q6×q8)=>some (Sum.inr (Sum.inl (y102.fst,q8.mk y102.snd.Kind_ y102.snd.Text_ y102.snd.Num_ y102.snd.At_ y102.snd.Kids_)))) (fun (y103:vv)=>some (Sum.inr (Sum.inr y103))) y101) y99).bind fun (y104:V3)=>Sum.elim (fun (y105:zj)=>some (Sum.inl y105)) (fun (y106:V6)=>Sum.elim (fun (y107:q6×q8)=>some (Sum.inr (Sum.inl (y107.fst,q8.mk y107.snd.Kind_ y107.snd.Text_ y107.snd.Num_ y107.snd.At_ y107.snd.Kids_)))) (fun (y108:vv)=>some (Sum.inr (Sum.inr y108))) y106) y104).bind fun (y109:V3)=>Sum.elim (fun (y110:zj)=>some (Sum.inl y110)) (fun (y111:V6)=>Sum.elim (fun (y112:q6×q8)=>some (Sum.inr (q8.mk y112.snd.Kind_ y112.snd.Text_ y112.snd.Num_ y112.snd.At_ y112.snd.Kids_,y112.fst))) (fun (y113:vv)=>((f21 y113.fst).bind fun (y114:Z1)=>Sum.elim (fun (y115:zj)=>some (Sum.inl y115)) (fun (y116:yO)=>(f37 (q8.mk y116.fst.fst y116.fst.snd.fst y116.fst.snd.snd.fst y116.fst.snd.snd.snd (Sl.mk [] false),y116.snd)).bind fun (y117:Zb)=>Sum.elim (fun (y118:zj)=>some (Sum.inl y118)) (fun (y119:xZ)=>(f27 (q8.mk y119.fst.fst y119.fst.snd.fst y119.fst.snd.snd.fst y119.fst.snd.snd.snd y119.snd.snd,y119.snd.fst)).bind fun (y120:ZM)=>Sum.elim (fun (y121:zj)=>some (Sum.inl y121)) (fun (y122:q8×q6)=>some (Sum.inr (y122.snd,q8.mk y122.fst.Kind_ y122.fst.Text_ y122.fst.Num_ y122.fst.At_ y122.fst.Kids_))) y120) y117) y114).bind fun (y123:zg4)=>Sum.elim (fun (y124:zj)=>some (Sum.inl y124)) (fun (y125:q6×q8)=>some (Sum.inr (q8.mk y125.snd.Kind_ y125.snd.Text_ y125.snd.Num_ y125.snd.At_ y125.snd.Kids_,y125.fst))) y123) y111) y109
noncomputable def q2f (h:ZS):xE:=q91 lpW zh q15 qy q1a q7d q8u qbp (q2x h) h q1j q1k q2m q90
noncomputable def Ye (h:ZS):xE:=zoh h
instance tw_syntax_parser_stmtv {h g:q6→Option Zb}[∀ x,LC (h x) (g x)] (x):LC (q2f h x) (Ye g x):=by
  rw [show Ye g x=q91 lpO zg zF zm zM xT Xj wy (xl g) g Zm Zn ym Xk x from by kernel_rfl]
  unfold q2f q91
  repeat (first | infer_instance | refine LCb ?_ fun _=>?_ | refine LCi ?_ ?_ | refine LCe (fun _=>?_) fun _=>?_)
noncomputable def q3h (L:zc) (G:zf) (f16:XC) (f17:Zx) (f19:V9) (f22:wc) (f18:Zx) (f39:xE):xX→Option (Step xX zbE):=fun (y7:xX)=>(f18 (lit [125],y7.fst)).bind fun (y8:zH)=>if (!y8.fst)=true then (f39 y8.snd).bind fun (y9:ZM)=>Sum.elim (fun (y10:zj)=>some (Step.done (Sum.inl y10))) (fun (y11:q8×q6)=>(zA 64 y7.snd.snd.snd [q8.mk y11.fst.Kind_ y11.fst.Text_ y11.fst.Num_ y11.fst.At_ y11.fst.Kids_]).bind fun (y12:Sl q8)=>some (Step.next (y11.snd,y7.snd.fst,y7.snd.snd.fst,y12))) y9 else some (Step.done (Sum.inr (y8.snd,y7.snd)))
noncomputable def q7g (L:zc) (G:zf) (f16:XC) (f17:Zx) (f19:V9) (f22:wc) (f18:Zx) (f39:xE) (x:q6):Option Zb:=(f16 x).bind fun (y0:qq×q6)=>((f17 (lit [123],y0.snd)).bind fun (y1:zH)=>if y1.fst=true then some (decide (8≤y1.snd.deep_),y1.snd,(0,lit [],0,0),9,lit [],0,y0.fst.At_) else some (false,y1.snd,(0,lit [],0,0),9,lit [],0,y0.fst.At_)).bind fun (y2:zgG)=>if y2.fst=true then (f19 (21,y2.snd.fst)).bind fun (y3:zj)=>some (Sum.inl y3) else (f22 (lit [123],y2.snd.fst)).bind fun (y4:Z5)=>Sum.elim (fun (y5:zj)=>some (Sum.inl y5)) (fun (y6:q6)=>(L ((q3h L G) f16 f17 f19 f22 f18 f39) (q6.mk y6.tokens_ (IntKind.i64.wrap (y6.deep_+1)),y2.snd.snd.fst,y2.snd.snd.snd,Sl.mk [] false)).bind fun (y13:zbE)=>Sum.elim (fun (y14:zj)=>some (Sum.inl y14)) (fun (y15:xX)=>some (Sum.inr (y15.snd.snd.fst,q6.mk y15.fst.tokens_ (IntKind.i64.wrap (y15.fst.deep_ - 1)),y15.snd.snd.snd))) y13) y4
noncomputable def q7h (h:ZS):ZS:=q7g lpW zh q15 q1j q1c q13 qy (q2f h)
noncomputable def w4 (h:ZS):ZS:=zoi h
instance {h g:q6→Option Zb}[∀ x,LC (h x) (g x)] (y):LC (q3h lpW zh q15 q1j q1c q13 qy (q2f h) y) (q3h lpO zg zF Zm zX zD zm (Ye g) y):=by
  unfold q3h
  infer_instance
instance tw_syntax_parser_blockv {h g:q6→Option Zb}[∀ x,LC (h x) (g x)] (x):LC (q7h h x) (w4 g x):=by
  rw [show w4 g x=q7g lpO zg zF Zm zX zD zm (Ye g) x from by kernel_rfl]
  unfold q7h q7g
  infer_instance
noncomputable def q26:Nat→q6→Option Zb
  |0=>fun _=>none
  |k+1=>q7h (q26 k)
noncomputable def zaw (k:Nat):ZS:=zfH k
theorem q2y:∀ j k,j≤k→∀ x,LC (q26 j x) (zaw k x)
  |0,k,_=>fun x=>⟨fun a h=>by cases h⟩
  |j+1,0,h=>by omega
  |j+1,k+1,h=>@tw_syntax_parser_blockv _ _ (q2y j k (by omega))
noncomputable def qe9:zdq→Option Zb:=q2x (q26 200)
noncomputable def zax:zdq→Option Zb:=F38
instance tw_syntax_parser_branch (x):LC (qe9 x) (zax x):=@tw_syntax_parser_branchv _ _ (q2y 200 100000 (by omega)) x
noncomputable def qed:xE:=q2f (q26 200)
noncomputable def zbQ:xE:=F39
instance tw_syntax_parser_stmt (x):LC (qed x) (zbQ x):=@tw_syntax_parser_stmtv _ _ (q2y 200 100000 (by omega)) x
noncomputable def qcv:ZS:=q26 200
noncomputable def Wv:ZS:=F40
instance tw_syntax_parser_block (x):LC (qcv x) (Wv x):=q2y 200 100000 (by omega) x
noncomputable def qb8 (L:zc) (G:zf) (f21:We) (f22:wc) (f17:Zx) (f25:xD) (f18:Zx) (f19:V9) (f23:zgO) (f16:XC) (f40:ZS) (x:Int×q6):Option Zb:=(f21 x.snd).bind fun (y0:Z1)=>Sum.elim (fun (y1:zj)=>some (Sum.inl y1)) (fun (y2:yO)=>(f22 (lit [40],y2.snd)).bind fun (y3:Z5)=>Sum.elim (fun (y4:zj)=>some (Sum.inl y4)) (fun (y5:q6)=>(f17 (lit [41],y5)).bind fun (y6:zH)=>(if (!y6.fst)=true then (f25 y6.snd).bind fun (y7:Yc)=>Sum.elim (fun (y8:zj)=>some (Sum.inl y8)) (fun (y9:yk)=>some (Sum.inr (y9.fst,(0,lit [],0,0),(6,y2.fst.snd.fst,y2.fst.snd.snd.fst,x.fst),y9.snd))) y7 else some (Sum.inr (y6.snd,(0,lit [],0,0),(6,y2.fst.snd.fst,y2.fst.snd.snd.fst,x.fst),Sl.mk [] false))).bind fun (y10:zbE)=>Sum.elim (fun (y11:zj)=>some (Sum.inl y11)) (fun (y12:xX)=>(f22 (lit [41],y12.fst)).bind fun (y13:Z5)=>Sum.elim (fun (y14:zj)=>some (Sum.inl y14)) (fun (y15:q6)=>(f18 (lit [45,62],y15)).bind fun (y16:zH)=>(if y16.fst=true then (f17 (lit [38],y16.snd)).bind fun (y17:zH)=>if y17.fst=true then (f19 (20,y17.snd)).bind fun (y18:zj)=>some (Sum.inl y18) else (f23 y17.snd).bind fun (y19:zl6)=>Sum.elim (fun (y20:q8×q6)=>some (Sum.inr (y20.snd,y12.snd.fst,y12.snd.snd.fst,q8.mk y20.fst.Kind_ y20.fst.Text_ y20.fst.Num_ y20.fst.At_ y20.fst.Kids_,y12.snd.snd.snd))) (fun (y21:zj)=>some (Sum.inl y21)) y19 else (f16 y16.snd).bind fun (y22:qq×q6)=>some (Sum.inr (y22.snd,y12.snd.fst,y12.snd.snd.fst,q8.mk 8 (lit []) 0 y22.fst.At_ (Sl.mk [] false),y12.snd.snd.snd))).bind fun (y23:zT×q6⊕q6×(Int×ByteArray×Int×Int)×(Int×ByteArray×Int×Int)×q8×Sl q8)=>Sum.elim (fun (y24:zj)=>some (Sum.inl y24)) (fun (y25:q6×(Int×ByteArray×Int×Int)×(Int×ByteArray×Int×Int)×q8×Sl q8)=>(f40 y25.fst).bind fun (y26:Zb)=>Sum.elim (fun (y27:zj)=>some (Sum.inl y27)) (fun (y28:xZ)=>(zA 64 y25.snd.snd.snd.snd [q8.mk y25.snd.snd.snd.fst.Kind_ y25.snd.snd.snd.fst.Text_ y25.snd.snd.snd.fst.Num_ y25.snd.snd.snd.fst.At_ y25.snd.snd.snd.fst.Kids_,q8.mk y28.fst.fst y28.fst.snd.fst y28.fst.snd.snd.fst y28.fst.snd.snd.snd y28.snd.snd]).bind fun (y29:Sl q8)=>some (Sum.inr (y25.snd.snd.fst,y28.snd.fst,y29))) y26) y23) y13) y10) y3) y0
noncomputable def q72:(Int×q6)→Option Zb:=qb8 lpW zh q1a q13 q1j q50 qy q1c q57 q15 qcv
noncomputable def xF:(Int×q6)→Option Zb:=P41.F
instance tw_syntax_parser_fn (x):LC (q72 x) (xF x):=by
  rw [show xF x=qb8 lpO zg zM zD Zm Yw zm zX YH zF Wv x from by kernel_rfl]
  unfold q72 qb8
  infer_instance
noncomputable def q92 (L:zc) (G:zf) (f16:XC) (f18:Zx) (f21:We) (f19:V9) (x:q6):Option zqi:=(f16 x).bind fun (y0:qq×q6)=>(f16 y0.snd).bind fun (y1:qq×q6)=>(f18 (lit [111,119,110],y1.snd)).bind fun (y2:zH)=>(if y2.fst=true then some (y2.fst,y2.snd,(0,lit [],0,0),2,y0.fst.Text_,0,y1.fst.At_) else (f18 (lit [99,101,108,108],y2.snd)).bind fun (y3:zH)=>some (y3.fst,y3.snd,(0,lit [],0,0),2,y0.fst.Text_,0,y1.fst.At_)).bind fun (y4:zgG)=>(if y4.fst=true then some (Sum.inl (y4.snd.fst,y4.snd.snd.fst,y4.snd.snd.snd,Sl.mk [] false)) else (f18 (lit [99,111,117,110,116,101,100],y4.snd.fst)).bind fun (y5:zH)=>(if y5.fst=true then some (y5.fst,y5.snd,y4.snd.snd) else (f18 (lit [108,111,99,107],y5.snd)).bind fun (y6:zH)=>(if y6.fst=true then some (y6.fst,y6.snd,y4.snd.snd) else (f18 (lit [103,117,97,114,100],y6.snd)).bind fun (y7:zH)=>some (y7.fst,y7.snd,y4.snd.snd)).bind fun (y8:zgG)=>some y8).bind fun (y9:zgG)=>(if y9.fst=true then (f21 y9.snd.fst).bind fun (y10:Z1)=>Sum.elim (fun (y11:zj)=>some (Sum.inl y11)) (fun (y12:yO)=>some (Sum.inr (y12.snd,y9.snd.snd.fst,y9.snd.snd.snd,Sl.mk [q8.mk y12.fst.fst y12.fst.snd.fst y12.fst.snd.snd.fst y12.fst.snd.snd.snd (Sl.mk [] false)] true))) y10 else (f19 (20,y9.snd.fst)).bind fun (y13:zj)=>some (Sum.inl y13)).bind fun (y14:zbE)=>Sum.elim (fun (y15:zj)=>some (Sum.inr y15)) (fun (y16:xX)=>some (Sum.inl y16)) y14).bind fun (y17:q6×(Int×ByteArray×Int×Int)×(Int×ByteArray×Int×Int)×Sl q8⊕zT×q6)=>Sum.elim (fun (y18:xX)=>some (Sum.inl (y18.snd.snd.fst,y18.fst,y18.snd.snd.snd))) (fun (y19:zj)=>some (Sum.inr y19)) y17
noncomputable def qae:zlh:=q92 lpW zh q15 qy q1a q1c
noncomputable def XG:zlh:=P42.F
instance tw_syntax_parser_sort (x):LC (qae x) (XG x):=by
  rw [show XG x=q92 lpO zg zF zm zM zX x from by kernel_rfl]
  unfold qae q92
  infer_instance
noncomputable def q7i (L:zc) (G:zf) (f21:We) (f18:Zx) (f22:wc) (x:q6):Option Zb:=(f21 x).bind fun (y0:Z1)=>Sum.elim (fun (y1:zj)=>some (Sum.inl y1)) (fun (y2:yO)=>(f18 (lit [91],y2.snd)).bind fun (y3:zH)=>(if y3.fst=true then (f21 y3.snd).bind fun (y4:Z1)=>Sum.elim (fun (y5:zj)=>some (Sum.inl y5)) (fun (y6:yO)=>(f22 (lit [93],y6.snd)).bind fun (y7:Z5)=>Sum.elim (fun (y8:zj)=>some (Sum.inl y8)) (fun (y9:q6)=>some (Sum.inr (y9,(0,lit [],0,0),(3,y2.fst.snd),Sl.mk [q8.mk y6.fst.fst y6.fst.snd.fst y6.fst.snd.snd.fst y6.fst.snd.snd.snd (Sl.mk [] false)] true))) y7) y4 else some (Sum.inr (y3.snd,(0,lit [],0,0),(3,y2.fst.snd),Sl.mk [] false))).bind fun (y10:zbE)=>Sum.elim (fun (y11:zj)=>some (Sum.inl y11)) (fun (y12:xX)=>some (Sum.inr (y12.snd.snd.fst,y12.fst,y12.snd.snd.snd))) y10) y0
noncomputable def q4c:ZS:=q7i lpW zh q1a qy q13
noncomputable def Yf:ZS:=P43.F
instance tw_syntax_parser_field (x):LC (q4c x) (Yf x):=by
  rw [show Yf x=q7i lpO zg zM zm zD x from by kernel_rfl]
  unfold q4c q7i
  infer_instance
noncomputable def q24 (L:zc) (G:zf) (f43:ZS) (f18:Zx):yk→Option (Step yk Yc):=fun (y3:yk)=>(f18 (lit [44],y3.fst)).bind fun (y4:zH)=>if y4.fst=true then (f43 y4.snd).bind fun (y5:Zb)=>Sum.elim (fun (y6:zj)=>some (Step.done (Sum.inl y6))) (fun (y7:xZ)=>(zA 64 y3.snd [q8.mk y7.fst.fst y7.fst.snd.fst y7.fst.snd.snd.fst y7.fst.snd.snd.snd y7.snd.snd]).bind fun (y8:Sl q8)=>some (Step.next (y7.snd.fst,y8))) y5 else some (Step.done (Sum.inr (y4.snd,y3.snd)))
noncomputable def q44 (L:zc) (G:zf) (f43:ZS) (f18:Zx) (x:q6):Option Yc:=(f43 x).bind fun (y0:Zb)=>Sum.elim (fun (y1:zj)=>some (Sum.inl y1)) (fun (y2:xZ)=>(L ((q24 L G) f43 f18) (y2.snd.fst,Sl.mk [q8.mk y2.fst.fst y2.fst.snd.fst y2.fst.snd.snd.fst y2.fst.snd.snd.snd y2.snd.snd] true)).bind fun (y9:Yc)=>Sum.elim (fun (y10:zj)=>some (Sum.inl y10)) (fun (y11:yk)=>some (Sum.inr y11)) y9) y0
noncomputable def q52:xD:=q44 lpW zh q4c qy
noncomputable def Yx:xD:=P44.F
instance (y):LC (q24 lpW zh q4c qy y) (q24 lpO zg Yf zm y):=by
  unfold q24
  infer_instance
instance tw_syntax_parser_list_field (x):LC (q52 x) (Yx x):=by
  rw [show Yx x=q44 lpO zg Yf zm x from by kernel_rfl]
  unfold q52 q44
  infer_instance
noncomputable def q2c (L:zc) (G:zf) (f33:ZS) (f18:Zx):yk→Option (Step yk Yc):=fun (y3:yk)=>(f18 (lit [44],y3.fst)).bind fun (y4:zH)=>if y4.fst=true then (f33 y4.snd).bind fun (y5:Zb)=>Sum.elim (fun (y6:zj)=>some (Step.done (Sum.inl y6))) (fun (y7:xZ)=>(zA 64 y3.snd [q8.mk y7.fst.fst y7.fst.snd.fst y7.fst.snd.snd.fst y7.fst.snd.snd.snd y7.snd.snd]).bind fun (y8:Sl q8)=>some (Step.next (y7.snd.fst,y8))) y5 else some (Step.done (Sum.inr (y4.snd,y3.snd)))
noncomputable def q53 (L:zc) (G:zf) (f33:ZS) (f18:Zx) (x:q6):Option Yc:=(f33 x).bind fun (y0:Zb)=>Sum.elim (fun (y1:zj)=>some (Sum.inl y1)) (fun (y2:xZ)=>(L ((q2c L G) f33 f18) (y2.snd.fst,Sl.mk [q8.mk y2.fst.fst y2.fst.snd.fst y2.fst.snd.snd.fst y2.fst.snd.snd.snd y2.snd.snd] true)).bind fun (y9:Yc)=>Sum.elim (fun (y10:zj)=>some (Sum.inl y10)) (fun (y11:yk)=>some (Sum.inr y11)) y9) y0
noncomputable def q5b:xD:=q53 lpW zh q2l qy
noncomputable def YK:xD:=P45.F
instance (y):LC (q2c lpW zh q2l qy y) (q2c lpO zg yl zm y):=by
  unfold q2c
  infer_instance
instance tw_syntax_parser_list_fact (x):LC (q5b x) (YK x):=by
  rw [show YK x=q53 lpO zg yl zm x from by kernel_rfl]
  unfold q5b q53
  infer_instance
noncomputable def qaf (L:zc) (G:zf) (f21:We) (f42:zlh) (f18:Zx) (f44:xD) (f22:wc) (f45:xD) (x:Int×q6):Option Zb:=(f21 x.snd).bind fun (y0:Z1)=>Sum.elim (fun (y1:zj)=>some (Sum.inl y1)) (fun (y2:yO)=>(f42 y2.snd).bind fun (y3:zqi)=>Sum.elim (fun (y4:xZ)=>(f18 (lit [123],y4.snd.fst)).bind fun (y5:zH)=>(if y5.fst=true then (f44 y5.snd).bind fun (y6:Yc)=>Sum.elim (fun (y7:zj)=>some (Sum.inl y7)) (fun (y8:yk)=>(zA 64 (Sl.mk [q8.mk y4.fst.fst y4.fst.snd.fst y4.fst.snd.snd.fst y4.fst.snd.snd.snd y4.snd.snd] true) y8.snd.xs).bind fun (y9:Sl q8)=>(f22 (lit [125],y8.fst)).bind fun (y10:Z5)=>Sum.elim (fun (y11:zj)=>some (Sum.inl y11)) (fun (y12:q6)=>some (Sum.inr (y12,(0,lit [],0,0),(1,y2.fst.snd.fst,y2.fst.snd.snd.fst,x.fst),y9))) y10) y6 else some (Sum.inr (y5.snd,(0,lit [],0,0),(1,y2.fst.snd.fst,y2.fst.snd.snd.fst,x.fst),Sl.mk [q8.mk y4.fst.fst y4.fst.snd.fst y4.fst.snd.snd.fst y4.fst.snd.snd.snd y4.snd.snd] true))).bind fun (y13:zbE)=>Sum.elim (fun (y14:zj)=>some (Sum.inl y14)) (fun (y15:xX)=>(f18 (lit [119,104,101,114,101],y15.fst)).bind fun (y16:zH)=>(if y16.fst=true then (f45 y16.snd).bind fun (y17:Yc)=>Sum.elim (fun (y18:zj)=>some (Sum.inl y18)) (fun (y19:yk)=>(zA 64 y15.snd.snd.snd y19.snd.xs).bind fun (y20:Sl q8)=>some (Sum.inr (y19.fst,y15.snd.fst,y15.snd.snd.fst,y20))) y17 else some (Sum.inr (y16.snd,y15.snd))).bind fun (y21:zbE)=>Sum.elim (fun (y22:zj)=>some (Sum.inl y22)) (fun (y23:xX)=>(f22 (lit [59],y23.fst)).bind fun (y24:Z5)=>Sum.elim (fun (y25:zj)=>some (Sum.inl y25)) (fun (y26:q6)=>some (Sum.inr (y23.snd.snd.fst,y26,y23.snd.snd.snd))) y24) y21) y13) (fun (y27:zj)=>some (Sum.inl y27)) y3) y0
noncomputable def q69:(Int×q6)→Option Zb:=qaf lpW zh q1a qae qy q52 q13 q5b
noncomputable def xd:(Int×q6)→Option Zb:=P46.F
instance tw_syntax_parser_typ (x):LC (q69 x) (xd x):=by
  rw [show xd x=qaf lpO zg zM XG zm Yx zD YK x from by kernel_rfl]
  unfold q69 qaf
  infer_instance
noncomputable def qc4 (L:zc) (G:zf) (f47:WU):zma→Option (Step zma Int):=fun (y0:zma)=>if decide (y0.snd.snd.snd < y0.snd.snd.fst)=true then (ze y0.snd.fst y0.snd.snd.snd).bind fun (y1:q8)=>(f47 (q8.mk y1.Kind_ y1.Text_ y1.Num_ y1.At_ y1.Kids_)).bind fun (y2:Int)=>some (Step.next (IntKind.i64.wrap (y0.fst+y2),y0.snd.fst,y0.snd.snd.fst,IntKind.i64.wrap (y0.snd.snd.snd+1))) else some (Step.done y0.fst)
noncomputable def qd7 (L:zc) (G:zf) (f47:WU) (x:q8):Option Int:=(L ((qc4 L G) f47) (1,x.Kids_,x.Kids_.len,0)).bind fun (y3:Int)=>some y3
noncomputable def qd8 (h:WU):WU:=qd7 lpW zh h
noncomputable def zaU (h:WU):WU:=zok h
instance {h g:q8→Option Int}[∀ x,LC (h x) (g x)] (y):LC (qc4 lpW zh h y) (qc4 lpO zg g y):=by
  unfold qc4
  infer_instance
instance tw_syntax_Sizev {h g:q8→Option Int}[∀ x,LC (h x) (g x)] (x):LC (qd8 h x) (zaU g x):=by
  rw [show zaU g x=qd7 lpO zg g x from by kernel_rfl]
  unfold qd8 qd7
  infer_instance
noncomputable def qd9:Nat→q8→Option Int
  |0=>fun _=>none
  |k+1=>qd8 (qd9 k)
noncomputable def zfN (k:Nat):WU:=zkq k
theorem qe5:∀ j k,j≤k→∀ x,LC (qd9 j x) (zfN k x)
  |0,k,_=>fun x=>⟨fun a h=>by cases h⟩
  |j+1,0,h=>by omega
  |j+1,k+1,h=>@tw_syntax_Sizev _ _ (qe5 j k (by omega))
noncomputable def qdp:WU:=qd9 200
noncomputable def vP:WU:=F47
instance tw_syntax_Size (x):LC (qdp x) (vP x):=qe5 200 100000 (by omega) x
noncomputable def q93 (L:zc) (G:zf) (x:zbG):Option wM:=some ((0,lit [],0,0),x.fst.fst,x.fst.snd,x.snd.snd.snd.snd)
noncomputable def q5c:zbG→Option wM:=q93 lpW zh
noncomputable def YL:zbG→Option wM:=F48
instance tw_syntax_Parse_1_rec (x):LC (q5c x) (YL x):=by
  rw [show YL x=q93 lpO zg x from by kernel_rfl]
  unfold q5c q93
  infer_instance
noncomputable def q6n (L:zc) (G:zf) (x:wM):Option wM:=some x
noncomputable def q3i:wM→Option wM:=q6n lpW zh
noncomputable def yP:wM→Option wM:=F49
instance tw_syntax_Parse_1_rec_2 (x):LC (q3i x) (yP x):=by
  rw [show yP x=q6n lpO zg x from by kernel_rfl]
  unfold q3i q6n
  infer_instance
end Go.Px
