/- Part Ch. -/
import Derived.Test.YtnkjgenigoecjaaGreatDoorSf
set_option linter.unusedVariables false
set_option linter.unusedSimpArgs false
namespace Go.Px
open Bool renaming false->d,true->j
open Nat renaming beq->m
open _root_.Option renaming some->i,none->q
open Go.Proofs Go.Proofs.Tryz
set_option maxRecDepth 100000
noncomputable section
theorem ZF:Tryz.prog.follows .mixedOrders=true:=by kernel_rfl
def GLk:World->FS->Prop:=λ_ Z=>(∃t p,Z 0 0=i (.iface t p))/\∃t p,Z 1 0=i (.iface t p)
theorem glm{Z τ:FS}{w w':World}{h:zc}(l:Z.le τ)(_:Ext w h w')(g:GLk w Z):GLk w' τ:=by
 obtain⟨⟨t,p,a⟩,t',p',b⟩:=g
 exact⟨⟨t,p,l _ _ _ a⟩,t',p',l _ _ _ b⟩
structure qr where
 k_:Int
 T_:U5
 n_:Int
 a_:Int
structure q7 where
 Z_:(Sl qr)
 D_:Int
structure q8 where
 k_:Int
 T_:U5
 n_:Int
 a_:Int
 K_:(Sl q8)
structure qt where
 N_:U5
 z_:Int
structure qw where
 X_:Int
 Y_:Int
 C_:Int
structure qa where
 N_:U5
 S_:Int
 o_:Int
 E_:(Sl qt)
 U_:(Sl qw)
structure qh where
 N_:U5
 M_:Int
 t_:Int
structure qf where
 N_:U5
 P_:(Sl qh)
 R_:qh
structure q9 where
 k_:Int
 T_:U5
 n_:Int
 a_:Int
structure q6 where
 k_:Int
 T_:U5
 n_:Int
 a_:Int
 K_:(Sl q6)
structure qn where
 N_:U5
 z_:Int
structure qu where
 X_:Int
 Y_:Int
 C_:Int
structure qd where
 N_:U5
 S_:Int
 o_:Int
 E_:(Sl qn)
 U_:(Sl qu)
structure qi where
 N_:U5
 M_:Int
 t_:Int
structure qj where
 N_:U5
 P_:(Sl qi)
 R_:qi
structure q13 where
 J_:(Sl q8)
 I_:(Sl qa)
 s_:(Sl qf)
 r_:(Sl q6)
 j_:(Sl qd)
 q_:(Sl qj)
structure qe where
 N_:U5
 P_:Int
 V_:(Sl qh)
structure qz where
 N_:U5
 n_:Int
structure qm where
 O_:Int
 a_:Int
 X_:U5
 Y_:U5
 A_:qz
 B_:qz
 Q_:(Sl qz)
 H_:Int
 h_:Bool
structure q1j where
 N_:U5
 P_:(Sl U5)
 L_:(Sl qm)
structure qg where
 N_:U5
 P_:Int
 V_:(Sl qi)
structure qp where
 N_:U5
 n_:Int
structure qq where
 O_:Int
 a_:Int
 X_:U5
 Y_:U5
 A_:qp
 B_:qp
 Q_:(Sl qp)
 H_:Int
 h_:Bool
structure q1k where
 N_:U5
 P_:(Sl U5)
 L_:(Sl qq)
structure q1r where
 J_:(Sl qe)
 w_:(Sl q1j)
 r_:(Sl qg)
 g_:(Sl q1k)
structure ql where
 c_:q1j
 F_:qe
 G_:(Sl qf)
 f_:(Sl qe)
 W_:(Sl qa)
structure q15 where
 c_:q1k
 F_:qg
 G_:(Sl qj)
 f_:(Sl qg)
 W_:(Sl qd)
abbrev DT:List (Nat×Type):=[(142,qr),(139,q7),(93,q8),(241,qt),(305,qw),(116,qa),(9,U5),(47,qh),(119,qf),(155,q9),(97,q6),(251,qn),(254,qu),(198,qd),(3,Int),(202,qi),(204,qj),(55,q13),(33,qe),(77,qz),(80,qm),(30,q1j),(69,qg),(180,qp),(183,qq),(66,q1k),(60,q1r),(39,ql),(71,q15),(63,q15),(4,Bool),(110,(Sl Bool)),(40,(Int×Int)),(230,(Int×Bool))]
abbrev DD:Nat->Type:=zvQ DT
def zzd:(T:Nat)->U7 (MapT DD T):=λT=>if h:T=40 then i ⟨.i,.i,h ▸ rfl⟩ else if h:T=230 then i ⟨.i,.b,h ▸ rfl⟩ else q
def ET:List ((T:Nat)×TyE DD T):=[⟨142,j,[.int .i64,.str,.int .i64,.int .i64],λ(x:qr)=>(x.k_,x.T_,x.n_,x.a_,()),λ(a0,a1,a2,a3,_)=>i (show qr from⟨a0,a1,a2,a3⟩),λx y h=>by cases h;rfl⟩,
 ⟨139,j,[.sl 142,.int .i64],λ(x:q7)=>(x.Z_,x.D_,()),λ(a0,a1,_)=>i (show q7 from⟨a0,a1⟩),λx y h=>by cases h;rfl⟩,
 ⟨93,j,[.int .i64,.str,.int .i64,.int .i64,.sl 93],λ(x:q8)=>(x.k_,x.T_,x.n_,x.a_,x.K_,()),λ(a0,a1,a2,a3,a4,_)=>i (show q8 from⟨a0,a1,a2,a3,a4⟩),λx y h=>by cases h;rfl⟩,
 ⟨241,j,[.str,.int .i64],λ(x:qt)=>(x.N_,x.z_,()),λ(a0,a1,_)=>i (show qt from⟨a0,a1⟩),λx y h=>by cases h;rfl⟩,
 ⟨305,j,[.int .i64,.int .i64,.int .i64],λ(x:qw)=>(x.X_,x.Y_,x.C_,()),λ(a0,a1,a2,_)=>i (show qw from⟨a0,a1,a2⟩),λx y h=>by cases h;rfl⟩,
 ⟨116,j,[.str,.int .i64,.int .i64,.sl 241,.sl 305],λ(x:qa)=>(x.N_,x.S_,x.o_,x.E_,x.U_,()),λ(a0,a1,a2,a3,a4,_)=>i (show qa from⟨a0,a1,a2,a3,a4⟩),λx y h=>by cases h;rfl⟩,
 ⟨9,d,[.str],λ(x:U5)=>(x,()),λ(a0,_)=>i (show U5 from a0),λx y h=>by cases h;rfl⟩,
 ⟨47,j,[.str,.int .i64,.int .i64],λ(x:qh)=>(x.N_,x.M_,x.t_,()),λ(a0,a1,a2,_)=>i (show qh from⟨a0,a1,a2⟩),λx y h=>by cases h;rfl⟩,
 ⟨119,j,[.str,.sl 47,.str,.int .i64,.int .i64],λ(x:qf)=>(x.N_,x.P_,x.R_.N_,x.R_.M_,x.R_.t_,()),λ(a0,a1,a2,a3,a4,_)=>i (show qf from⟨a0,a1,⟨a2,a3,a4⟩⟩),λx y h=>by cases h;rfl⟩,
 ⟨155,j,[.int .i64,.str,.int .i64,.int .i64],λ(x:q9)=>(x.k_,x.T_,x.n_,x.a_,()),λ(a0,a1,a2,a3,_)=>i (show q9 from⟨a0,a1,a2,a3⟩),λx y h=>by cases h;rfl⟩,
 ⟨97,j,[.int .i64,.str,.int .i64,.int .i64,.sl 97],λ(x:q6)=>(x.k_,x.T_,x.n_,x.a_,x.K_,()),λ(a0,a1,a2,a3,a4,_)=>i (show q6 from⟨a0,a1,a2,a3,a4⟩),λx y h=>by cases h;rfl⟩,
 ⟨251,j,[.str,.int .i64],λ(x:qn)=>(x.N_,x.z_,()),λ(a0,a1,_)=>i (show qn from⟨a0,a1⟩),λx y h=>by cases h;rfl⟩,
 ⟨254,j,[.int .i64,.int .i64,.int .i64],λ(x:qu)=>(x.X_,x.Y_,x.C_,()),λ(a0,a1,a2,_)=>i (show qu from⟨a0,a1,a2⟩),λx y h=>by cases h;rfl⟩,
 ⟨198,j,[.str,.int .i64,.int .i64,.sl 251,.sl 254],λ(x:qd)=>(x.N_,x.S_,x.o_,x.E_,x.U_,()),λ(a0,a1,a2,a3,a4,_)=>i (show qd from⟨a0,a1,a2,a3,a4⟩),λx y h=>by cases h;rfl⟩,
 ⟨3,d,[.int .i64],λ(x:Int)=>(x,()),λ(a0,_)=>i (show Int from a0),λx y h=>by cases h;rfl⟩,
 ⟨202,j,[.str,.int .i64,.int .i64],λ(x:qi)=>(x.N_,x.M_,x.t_,()),λ(a0,a1,a2,_)=>i (show qi from⟨a0,a1,a2⟩),λx y h=>by cases h;rfl⟩,
 ⟨204,j,[.str,.sl 202,.str,.int .i64,.int .i64],λ(x:qj)=>(x.N_,x.P_,x.R_.N_,x.R_.M_,x.R_.t_,()),λ(a0,a1,a2,a3,a4,_)=>i (show qj from⟨a0,a1,⟨a2,a3,a4⟩⟩),λx y h=>by cases h;rfl⟩,
 ⟨55,j,[.sl 93,.sl 116,.sl 119,.sl 97,.sl 198,.sl 204],λ(x:q13)=>(x.J_,x.I_,x.s_,x.r_,x.j_,x.q_,()),λ(a0,a1,a2,a3,a4,a5,_)=>i (show q13 from⟨a0,a1,a2,a3,a4,a5⟩),λx y h=>by cases h;rfl⟩,
 ⟨33,j,[.str,.int .i64,.sl 47],λ(x:qe)=>(x.N_,x.P_,x.V_,()),λ(a0,a1,a2,_)=>i (show qe from⟨a0,a1,a2⟩),λx y h=>by cases h;rfl⟩,
 ⟨77,j,[.str,.int .i64],λ(x:qz)=>(x.N_,x.n_,()),λ(a0,a1,_)=>i (show qz from⟨a0,a1⟩),λx y h=>by cases h;rfl⟩,
 ⟨80,j,[.int .i64,.int .i64,.str,.str,.str,.int .i64,.str,.int .i64,.sl 77,.int .i64,.bool],λ(x:qm)=>(x.O_,x.a_,x.X_,x.Y_,x.A_.N_,x.A_.n_,x.B_.N_,x.B_.n_,x.Q_,x.H_,x.h_,()),λ(a0,a1,a2,a3,a4,a5,a6,a7,a8,a9,a10,_)=>i (show qm from⟨a0,a1,a2,a3,⟨a4,a5⟩,⟨a6,a7⟩,a8,a9,a10⟩),λx y h=>by cases h;rfl⟩,
 ⟨30,j,[.str,.sl 9,.sl 80],λ(x:q1j)=>(x.N_,x.P_,x.L_,()),λ(a0,a1,a2,_)=>i (show q1j from⟨a0,a1,a2⟩),λx y h=>by cases h;rfl⟩,
 ⟨69,j,[.str,.int .i64,.sl 202],λ(x:qg)=>(x.N_,x.P_,x.V_,()),λ(a0,a1,a2,_)=>i (show qg from⟨a0,a1,a2⟩),λx y h=>by cases h;rfl⟩,
 ⟨180,j,[.str,.int .i64],λ(x:qp)=>(x.N_,x.n_,()),λ(a0,a1,_)=>i (show qp from⟨a0,a1⟩),λx y h=>by cases h;rfl⟩,
 ⟨183,j,[.int .i64,.int .i64,.str,.str,.str,.int .i64,.str,.int .i64,.sl 180,.int .i64,.bool],λ(x:qq)=>(x.O_,x.a_,x.X_,x.Y_,x.A_.N_,x.A_.n_,x.B_.N_,x.B_.n_,x.Q_,x.H_,x.h_,()),λ(a0,a1,a2,a3,a4,a5,a6,a7,a8,a9,a10,_)=>i (show qq from⟨a0,a1,a2,a3,⟨a4,a5⟩,⟨a6,a7⟩,a8,a9,a10⟩),λx y h=>by cases h;rfl⟩,
 ⟨66,j,[.str,.sl 9,.sl 183],λ(x:q1k)=>(x.N_,x.P_,x.L_,()),λ(a0,a1,a2,_)=>i (show q1k from⟨a0,a1,a2⟩),λx y h=>by cases h;rfl⟩,
 ⟨60,j,[.sl 33,.sl 30,.sl 69,.sl 66],λ(x:q1r)=>(x.J_,x.w_,x.r_,x.g_,()),λ(a0,a1,a2,a3,_)=>i (show q1r from⟨a0,a1,a2,a3⟩),λx y h=>by cases h;rfl⟩,
 ⟨39,j,[.str,.sl 9,.sl 80,.str,.int .i64,.sl 47,.sl 119,.sl 33,.sl 116],λ(x:ql)=>(x.c_.N_,x.c_.P_,x.c_.L_,x.F_.N_,x.F_.P_,x.F_.V_,x.G_,x.f_,x.W_,()),λ(a0,a1,a2,a3,a4,a5,a6,a7,a8,_)=>i (show ql from⟨⟨a0,a1,a2⟩,⟨a3,a4,a5⟩,a6,a7,a8⟩),λx y h=>by cases h;rfl⟩,
 ⟨71,j,[.str,.sl 9,.sl 183,.str,.int .i64,.sl 202,.sl 204,.sl 69,.sl 198],λ(x:q15)=>(x.c_.N_,x.c_.P_,x.c_.L_,x.F_.N_,x.F_.P_,x.F_.V_,x.G_,x.f_,x.W_,()),λ(a0,a1,a2,a3,a4,a5,a6,a7,a8,_)=>i (show q15 from⟨⟨a0,a1,a2⟩,⟨a3,a4,a5⟩,a6,a7,a8⟩),λx y h=>by cases h;rfl⟩,
 ⟨63,d,[.pz 71],λ(x:q15)=>(x,()),λ(a0,_)=>i (show q15 from a0),λx y h=>by cases h;rfl⟩,
 ⟨4,d,[.bool],λ(x:Bool)=>(x,()),λ(a0,_)=>i (show Bool from a0),λx y h=>by cases h;rfl⟩,
 ⟨110,d,[.sl 4],λ(x:(Sl Bool))=>(x,()),λ(a0,_)=>i (show(Sl Bool) from a0),λx y h=>by cases h;rfl⟩]
def CC:Cod:=zA9 DD ET GLk glm (zs8 zzd) (mp:=zBF zzd) (nst:=λt=>bif m t 110 then 0 else bif m t 69 then 2 else bif m t 41 then 0 else bif m t 33 then 2 else 0) (own:=λt=>m t 110 || m t 69 || m t 41 || m t 33 || false) (bz:=λt=>m t 71 || false)
class Ok(P:Spec CC):Prop where
 o:P.OK prog
class Oks(Γ:List (Spec CC)):Prop where
 o:∀s∈Γ,s.OK prog
instance:Oks []:=⟨yG⟩
instance {P:Spec CC}{Γ:List (Spec CC)}[a:Ok P][b:Oks Γ]:Oks (P::Γ):=⟨zu a.o b.o⟩
theorem okP(P:Spec CC)[a:Ok P]:P.OK prog:=a.o
def od:List Nat->List (Nat×Bool):=List.map λn=>(n / 2,m (n % 2) 1)
def spA(b:Bool)(Γ:List (Spec CC))(f nr:Nat)(fn:Func)(I:Sig)(O:List (XK×Sig))(H:Nat->U7 Hint):Spec CC:=⟨f,nr,I,O,λx=>wh ⟨b⟩ Γ lpO prog fn nr I O H x⟩
theorem kA {b : Bool} {Γ : List (Spec CC)} {f nr : Nat} {fn : Func} {I : Sig} {O : List (XK × Sig)} {H : Nat -> U7 Hint} [h : Oks Γ] (e : (Tryz.prog.funcs[f]?, (fn.name == "runtime.NumGoroutine"), fn.body.isNone) = (i fn, d, d) := by kernel_rfl) : Ok (spA b Γ f nr fn I O H) :=
 ⟨yF h.o ZF ZE H (Prod.mk.inj e).1 (Prod.mk.inj (Prod.mk.inj e).2).1 (Prod.mk.inj (Prod.mk.inj e).2).2 λx=>rfl⟩
abbrev ii:Sh :=.int .i64
abbrev c0:ESh :=.cell [.sl 119,.sl 116,.row 1,ii,.pr 1 33 0]
abbrev c1:ESh :=.cell [ii,.str,ii,ii,.nils]
abbrev c2:ESh :=.cell [.val 139]
abbrev c3:ESh :=.cell [.row 1,ii,ii,ii,ii]
abbrev c4:ESh :=.cell [.sl 204,.sl 198,.row 1,ii,ii]
abbrev c5:ESh :=.cell [ii,ii,.str,.str,.str,ii,.str,ii,.nils,ii,.bool]
abbrev c6:ESh :=.cell [.val 93]
abbrev c7:ESh :=.cell [.val 97]
abbrev c8:ESh :=.cell [.val 47]
abbrev c9:ESh :=.cell [ii,.str,ii,ii,.row 4]
abbrev c10:ESh :=.cell [.str,ii,ii,.nils,.nils]
abbrev c11:ESh :=.cell [ii]
abbrev c12:ESh :=.cell [.val 202]
abbrev c13:ESh :=.cell [ii,ii,.str,.str,.str,ii,.str,ii,.row 2,ii,.bool]
abbrev c14:ESh :=.cell [ii,ii,.str,.str,.str,ii,.str,ii,.row 3,ii,.bool]
abbrev c15:ESh :=.cell [.sl 119,.sl 116,.row 1,ii,.pnil]
abbrev c16:ESh :=.cell [.str,ii,ii,.row 1,.row 2]
abbrev c17:ESh :=.cell [.str,.nils,.str,ii,ii]
abbrev c18:ESh :=.cell [.val 39]
abbrev c19:ESh :=.cell [.row 1,.row 2,ii]
abbrev c20:ESh :=.cell [ii,.str,ii,ii,.row 3]
abbrev c21:ESh :=.cell [.val 155]
abbrev c22:ESh :=.cell [.val 80]
abbrev c23:ESh :=.cell [.str]
abbrev c24:ESh :=.cell [.nils,.nils,.nils,.nils,.nils,.nils]
abbrev c25:ESh :=.cell [.row 1]
abbrev c26:ESh :=.cell [.str,ii,.nils]
abbrev c27:ESh :=.cell [.row 2]
abbrev c28:ESh :=.cell [.str,ii,ii,.row 2,.nils]
abbrev c29:ESh :=.cell [.sl 204,.sl 198,.row 2,ii,ii]
abbrev c30:ESh :=.cell [.nils]
abbrev c31:ESh :=.cell [.str,ii,ii,.row 6,.nils]
abbrev c32:ESh :=.cell [.str,ii,ii,.row 2,.row 3]
abbrev c33:ESh :=.cell [.str,ii,ii,.row 6,.row 7]
abbrev c34:ESh :=.cell [.str,ii,ii,.row 5,.nils]
abbrev c35:ESh :=.cell [.sl 119,.sl 116,.row 5,ii,.pnil]
abbrev c36:ESh :=.cell [.str,.row 3,.str,ii,ii]
abbrev c37:ESh :=.cell [.str,.row 3,.nils]
abbrev c38:ESh :=.cell [ii,.str,ii,ii,.row 2]
abbrev c39:ESh :=.cell [.str,.nils,.nils]
abbrev c40:ESh :=.cell [.row 3,.row 2,ii]
abbrev c41:ESh :=.cell [.row 8,.row 4,ii]
abbrev c42:ESh :=.cell [.row 4]
abbrev c43:ESh :=.cell [.row 3,ii,ii,ii,ii]
abbrev c44:ESh :=.cell [.val 142]
abbrev c45:ESh :=.cell [.str,ii,ii,.row 7,.nils]
abbrev c46:ESh :=.cell [.str,.row 4,.str,ii,ii]
abbrev c47:ESh :=.cell [.str,.row 5,.str,ii,ii]
abbrev c48:ESh :=.cell [.nils,.nils,.nils,.nils]
abbrev c49:ESh :=.cell [.row 5]
abbrev c50:ESh :=.cell [.str,ii,.row 5]
abbrev c51:ESh :=.cell [.str,ii,.row 1]
abbrev c52:ESh :=.cell [.str,ii,ii,.row 4,.nils]
abbrev c53:ESh :=.cell [.row 3]
abbrev c54:ESh :=.cell [ii,.str,ii,ii,.row 5]
abbrev c55:ESh :=.cell [.str,ii,.row 7]
abbrev c56:ESh :=.cell [.val 55]
abbrev c57:ESh :=.cell [.row 4,.row 5,ii]
abbrev c58:ESh :=.cell [.str,ii,.row 6]
abbrev c59:ESh :=.cell [ii,ii]
abbrev GL:=XK×Sig
abbrev GM:=List (XK×Sig)
abbrev GN:=List ESh
abbrev GO:=List (Nat×Sh)
def Ja:GL:=(.pan (.ifc 135 (.agg [ii,ii])),⟨[],[c2]⟩)
def Jb:GM:=[(.normal,⟨[(4,.bool)],[]⟩)]
def J1:GN:=[c0,.forow 33]
def Jc:GL:=(.pan (.ifc 161 (.agg [ii,ii])),⟨[],J1⟩)
def HR:Sig:=⟨[],[c0,.orow 33]⟩
def JK:GL:=(.pan (.ifc 161 (.agg [ii,ii])),HR)
def JX:Sig:=⟨[(0,.pc 0 0),(4,.pc 2 0),(11,.sl 93),(12,ii),(13,ii)],[c0,.orow 33,c8]⟩
def Jd:GM:=[JK,(.normal,JX)]
def Je:GL:=(.normal,⟨[(0,.pc 0 0),(2,.pc 1 0),(3,.pc 2 0)],[c2,c1,c1]⟩)
def Jf:GN:=[c19,.row 3,.obj 0 230]
def Jg:GM:=[(.ret,⟨[(0,.agg [ii,.str,ii,ii,.row 2])],[c3,.row 155,.row 97]⟩)]
def Jz:GN:=[c3,.row 155,c1,c9,.row 97]
def Jh:GL:=(.normal,⟨[(0,.pc 0 0),(2,.pc 2 0),(5,.pc 3 0)],Jz⟩)
def Ji:GL:=(.pan (.ifc 161 (.agg [ii,ii])),⟨[(6,.pc 1 0),(7,.pc 2 0),(8,.pc 3 0)],[c6,c30,c11,c11]⟩)
def Jj:GL:=(.ret,⟨[(0,.agg [ii,.str,ii,ii,.row 1])],[c2,.row 93]⟩)
def KZ:GN:=[c16,.row 241,.row 305]
def Jk:GL:=(.pan (.ifc 190 (.agg [ii,ii])),⟨[],KZ⟩)
def Jl:Sig:=⟨[(0,.pc 0 0)],[c3,.row 155]⟩
def Jm:GM:=[(.ret,⟨[(0,.bool)],[]⟩)]
def Jn:GL:=(.normal,⟨[(0,.pc 0 0),(4,.pc 2 0)],[c25,.row 80,c14,.row 77]⟩)
def Gt:GN:=[c20,c11,c11,.row 93]
def Hi:Sig:=⟨[(2,.pc 0 0),(3,.pc 1 0),(4,.pc 2 0)],Gt⟩
def Jo:GM:=[(.pan (.ifc 135 (.agg [ii,ii])),Hi),(.normal,⟨[(2,.pc 0 0),(3,.pc 1 0),(4,.pc 2 0),(6,.pc 3 0)],[c9,c11,c11,c2,.row 93]⟩)]
def Jp:GL:=(.normal,⟨[(0,.pc 0 0),(2,.pc 1 0)],[c2,c1]⟩)
def Jq:GL:=(.ret,⟨[(4,.pc 1 0),(5,ii),(6,ii)],[.row 198,c28,.row 251]⟩)
def Jr:GM:=[(.normal,⟨[(29,.bool)],[]⟩)]
def Js:GM:=[(.normal,⟨[(2,.pc 0 0),(4,.pc 1 0)],[c5,c13,.row 180]⟩)]
def Jt:Sig:=⟨[(2,.pc 1 0)],[c2,c6]⟩
def HW:GN:=[c15,.forow 33]
def Ju:GL:=(.pan (.ifc 161 (.agg [ii,ii])),⟨[],HW⟩)
def Jv:Sig:=⟨[(1,.clo 111 [.tup [.pc 0 0]]),(3,.pc 2 0),(6,.row 6),(19,.row 7),(20,ii),(21,ii)],[c41,c18,c49,.gone,.obj 0 230,.orow 110,.row 4,.row 3,.row 3]⟩
def Jw:GM:=[(.ret,⟨[(0,ii)],[]⟩)]
def Jx:GM:=[(.normal,⟨[(2,.pc 0 0),(3,.pc 1 0)],[c5,c13,.row 180]⟩)]
def Jy:Sig:=⟨[(0,.pc 0 0)],[c2]⟩
def Hq:Sig:=⟨[],[c4,.orow 69]⟩
def J0:GM:=[(.ret,⟨[(6,ii)],[c4,.orow 69]⟩),(.normal,Hq)]
def J2:GM:=[(.normal,⟨[(0,.pc 0 0),(6,.pc 2 0)],[c25,.row 80,c14,.row 77]⟩)]
def J3:Sig:=⟨[(4,.pc 0 0),(5,.pc 1 0),(7,.pc 2 0),(12,.pc 3 0),(15,.row 4),(17,ii),(18,.pc 5 0),(19,.pc 6 0),(70,.sl 93),(71,ii),(72,ii)],[c24,c48,c56,c7,.orow 33,.cell [.sl 204,.sl 198,.row 7,ii,ii],.cell [.row 4,.row 8,.row 7,.row 9],.orow 69,.row 30,.row 66]⟩
def J4:GL:=(.ret,⟨[(4,.pc 0 0),(5,ii),(6,ii)],[c17]⟩)
def J5:Sig:=⟨[(3,.pc 0 0),(6,.pc 1 0),(7,.pc 2 0),(8,.pc 3 0),(9,.pc 4 0),(20,.sl 93),(21,ii),(22,ii)],[c6,c30,c11,c11,c35,.orow 33]⟩
def J6:Sig:=⟨[(0,.str),(1,ii),(4,.pc 0 0),(6,.pc 1 0),(7,ii),(13,ii),(14,.bool)],[c21,c21]⟩
def G4:GN:=[c3,.row 155,c1,c1]
def J7:Sig:=⟨[(0,.pc 0 0),(2,.pc 2 0),(3,.pc 3 0)],G4⟩
def J8:GL:=(.pan (.ifc 190 (.agg [ii,ii])),⟨[],[]⟩)
def He:GN:=[c4,.forow 69,c12,c12]
def J9:GM:=[(.ret,⟨[(6,.pc 2 0),(7,ii)],[c4,.forow 69,c12]⟩),(.normal,⟨[(6,.pc 2 0),(8,.pc 3 0)],He⟩)]
def JA:GM:=[(.normal,⟨[(1,.sl 198),(2,.pc 0 0),(4,.pc 1 0),(6,.pc 2 0)],[c7,c12,c12]⟩)]
def GH:GN:=[c16,.row 241,.row 305,c6,c59]
def JB:Sig:=⟨[(0,.pc 0 0),(2,.sl 93),(4,.pc 3 0),(6,.pc 4 0),(11,.sl 93),(12,ii),(13,ii)],GH⟩
def JC:GL:=(.normal,⟨[(4,.pc 1 0),(7,.row 2),(8,.row 3),(10,.pc 4 0),(16,ii)],[.row 198,c10,.row 97,.row 97,c34,.row 251]⟩)
def JD:GL:=(.normal,⟨[(0,.str),(5,.row 0),(6,ii),(7,.pc 1 0),(8,ii)],[.row 142,c44]⟩)
def JE:Sig:=⟨[(9,.pc 0 0),(10,ii),(11,.row 1),(34,.row 2),(35,ii),(36,ii),(43,ii),(44,ii)],[c18,.obj 0 40,.row 39]⟩
def JF:Sig:=⟨[(2,.pc 0 0),(8,.pc 1 0),(9,.pc 2 0)],[c1,c43,c9,.row 155,.row 97]⟩
def JG:GN:=[.row 198,c10,.row 97,.row 97,c7,c31,.row 251]
def JH:Sig:=⟨[(2,.pc 0 0),(9,ii),(10,.row 1),(12,ii),(13,.pc 2 0),(19,.row 3),(22,.pc 4 0),(72,.sl 93),(73,ii),(74,ii)],[c24,.row 119,c7,.row 204,.cell [.row 5,.sl 116,.row 1,.row 6,.sl 198,.row 3],.row 93,.row 97]⟩
def Gx:GN:=[c0,.forow 33,c8,c8]
def JI:GL:=(.normal,⟨[(0,.pc 0 0),(4,.pc 2 0),(5,.pc 3 0)],Gx⟩)
def JJ:Sig:=⟨[(2,.pc 1 0),(3,.pc 2 0),(4,.pc 3 0)],[c6,c42,c11,c11,.row 116]⟩
def JL:Sig:=⟨[(2,.pc 0 0),(3,.pc 1 0),(4,.pc 2 0),(17,.sl 93),(18,ii),(19,ii)],[c39,c37,c42,.row 9,.row 80]⟩
def JM:Sig:=⟨[(2,.pc 1 0),(3,.pc 2 0),(4,.pc 3 0),(9,.sl 93),(10,ii),(11,ii)],[c6,c42,c11,c11,.row 116]⟩
def JN:GL:=(.ret,⟨[(2,.nils),(3,ii),(4,ii)],[]⟩)
def JO:Sig:=⟨[(1,.clo 111 [.tup [.pc 0 0]]),(3,.pc 2 0),(6,.row 6),(8,ii),(19,.row 7),(20,ii),(21,ii),(39,ii),(40,ii)],[c41,c18,c49,.gone,.obj 0 230,.orow 110,.row 4,.row 3,.row 3]⟩
def JP:GO:=[(0,.pc 0 0),(1,.val 93)]
def JQ:GN:=[.row 198,c10,.row 97,.row 97,c33,.row 3,.row 251,.row 254]
def JR:Sig:=⟨[(0,.val 39),(1,ii)],[]⟩
def JS:Sig:=⟨[(0,.sl 116),(3,.pc 0 0),(4,.pc 1 0),(5,.sl 93),(6,.row 2),(7,.pc 3 0),(9,.pc 4 0),(10,ii),(33,.sl 93),(34,ii),(35,ii)],[c6,c10,.row 93,c34,c6,.row 241]⟩
def JT:GM:=[(.normal,⟨[(1,.pc 0 0),(3,.nils),(8,.bool)],[c22]⟩)]
def JU:Sig:=⟨[(6,.pc 1 0),(7,.pc 2 0),(8,.pc 3 0),(9,.pc 4 0),(46,.sl 93),(47,ii),(48,ii)],[c6,c30,c11,c11,.cell [.sl 119,.sl 116,.row 5,ii,.pr 5 33 0],.orow 33]⟩
def JV:Sig:=⟨[],[c27,.gone,.row 80]⟩
def JW:Sig:=⟨[(4,.pc 1 0),(7,.row 2),(8,.row 3),(10,.pc 4 0),(16,ii),(17,ii)],[.row 198,c10,.row 97,.row 97,.cell [.str,ii,ii,.row 5,.row 6],.row 251,.row 254]⟩
def JY:GM:=[(.ret,⟨[(0,.val 97)],[c3,.row 155]⟩)]
def JZ:Sig:=⟨[(0,.str)],[]⟩
def Ka:GO:=[(0,.pc 0 0),(1,ii)]
def Kb:GM:=[(.ret,⟨[(4,ii)],[c23]⟩),(.exit 0,⟨[],[c23]⟩)]
def Kc:GO:=[(0,.str),(5,.row 0),(6,ii)]
def Kd:Sig:=⟨[(2,.row 0),(3,.row 1),(7,.sl 93),(8,ii),(9,ii)],[.row 93,.row 93]⟩
def Ke:GN:=[c2,c1,c20,.row 93]
def Kf:Sig:=⟨[(0,.val 93)],[]⟩
def Kg:Sig:=⟨[(0,.sl 116),(3,.pc 0 0),(4,.pc 1 0),(5,.sl 93),(6,.row 2),(7,.pc 3 0),(33,.sl 93),(34,ii),(35,ii)],[c6,c10,.row 93,c52,.row 241]⟩
def Kh:GO:=[(1,ii),(2,.pc 0 0),(5,.row 1),(6,ii)]
def Ki:GL:=(.ret,⟨[(4,.pc 1 0),(5,ii),(6,ii)],[.row 198,c32,.row 251,.row 254]⟩)
def Kj:GL:=(.ret,⟨[(0,.val 93)],[c2]⟩)
def Kk:GL:=(.ret,⟨[(0,.row 1)],[c2,.row 93]⟩)
def Kl:GN:=[.row 198,c10,.row 97,.row 97,c7,c45,c7,.row 251]
def Km:GO:=[(0,.row 0),(1,ii),(2,ii)]
def Ko:Sig:=⟨[(0,.pc 0 0),(1,.pr 1 69 0),(2,.sl 97),(6,ii)],[c4,.orow 69]⟩
def Kq:Sig:=⟨[(1,.sl 116),(2,.pc 0 0),(4,.pc 1 0),(7,.pc 2 0),(8,ii),(11,.pc 3 0),(29,.sl 93),(30,ii),(31,ii)],[c6,c17,c46,c8,.row 47]⟩
def Kr:GO:=[(0,.pc 0 0),(1,.str)]
def Ks:Sig:=⟨[(0,.pc 0 0),(3,.pc 2 0),(4,.pc 3 0),(5,ii),(6,.pc 4 0),(27,.sl 93),(28,ii),(29,ii)],[c15,.forow 33,c6,c26,c50,.row 47]⟩
def Kt:Sig:=⟨[(1,.pc 0 0),(12,.row 1),(13,ii),(14,ii)],[c18,.orow 110]⟩
def Ku:GN:=[c40,.gone,.obj 0 230,.row 3]
def Kv:GM:=[(.normal,⟨[(0,.pc 0 0),(3,.pc 2 0),(4,.pc 3 0),(5,ii),(6,.pc 4 0),(7,ii),(11,.pc 5 0)],[c4,.forow 69,c7,c26,c58,c12,.row 202]⟩)]
def Kx:GL:=(.ret,⟨[(4,.pc 2 0)],[c0,.forow 33,c8]⟩)
def Ky:GL:=(.ret,⟨[(4,.bool)],[]⟩)
def Kz:GM:=[(.ret,⟨[(0,.bool)],[c23]⟩)]
def K0:GM:=[(.normal,⟨[(2,.bool)],[]⟩)]
def K6:GL:=(.ret,⟨[(4,.nils),(5,ii),(6,ii)],[]⟩)
def K7:GL:=(.exit 0,⟨[(5,.row 1)],[c2,.row 93]⟩)
def K8:Sig:=⟨[(0,.str),(1,.str)],[]⟩
def K9:Sig:=⟨[(0,.int .u8)],[]⟩
def KC:GN:=[c18,.obj 0 40,.row 39,.row 3]
def KD:GL:=(.normal,⟨[(0,.pc 0 0),(4,.pc 1 0),(5,.pc 2 0)],Ke⟩)
def KE:Sig:=⟨[(0,.val 97)],[]⟩
def KF:Sig:=⟨[(4,.pc 1 0),(7,.row 2),(8,.row 3),(10,.pc 4 0),(16,ii),(17,ii),(18,.row 5),(19,ii)],JQ⟩
def KG:Sig:=⟨[(1,.sl 198),(2,.pc 0 0),(4,.pc 1 0),(7,.pc 2 0),(8,ii),(9,ii)],[c7,c17,c36,.row 202]⟩
def KH:Sig:=⟨[(0,.pc 0 0),(4,.pc 2 0),(5,.pc 3 0)],Jz⟩
def KI:GO:=[(0,.pc 0 0),(1,ii),(2,ii)]
def KJ:GM:=[(.ret,⟨[(0,ii)],[.forow 69]⟩)]
def KL:GM:=[(.normal,⟨[(2,.pc 0 0),(3,.pc 1 0)],[c5,c5]⟩)]
def KM:Sig:=⟨[(2,.pc 0 0),(9,.pc 1 0),(11,.row 2),(48,.sl 47),(49,ii),(50,ii)],[c18,c22,.row 3]⟩
def KO:Sig:=⟨[(0,.row 0),(4,.pc 1 0),(7,.row 2),(8,.row 3),(9,.pc 4 0),(10,.pc 5 0),(12,ii)],JG⟩
def KP:GM:=[(.ret,⟨[(4,ii)],[]⟩),(.exit 0,⟨[],[]⟩)]
def KQ:GL:=(.ret,⟨[(6,ii)],[.forow 69]⟩)
def KR:GO:=[(0,.pc 0 0),(1,.pc 1 0),(2,.pc 2 0),(3,.nili)]
def KT:Sig:=⟨[],[.cell [.row 6,.row 4,ii],c18,c49,.gone,.obj 0 230,.orow 110,.row 3]⟩
def KU:Sig:=⟨[(9,.pc 0 0),(34,.row 1),(35,ii),(36,ii),(43,ii),(44,ii)],[c18,.row 39]⟩
def KV:Sig:=⟨[(0,.agg [ii,ii,.str,.str,.str,ii,.str,ii,.row 0,ii,.bool])],[.row 180]⟩
def KW:GL:=(.ret,⟨[(2,ii),(3,ii)],[]⟩)
def KX:Sig:=⟨[(0,.pc 0 0),(2,.pc 1 0),(3,.pc 2 0),(69,.pc 3 0)],[c2,c1,c1,.cell []]⟩
def KY:GL:=(.normal,⟨[(2,.pc 1 0),(3,.pc 2 0)],Ke⟩)
def Ha:GL:=(.ret,⟨[(2,.pc 1 0)],[c2,c38,.row 93]⟩)
def Hb:GM:=[(.ret,⟨[(0,ii)],[c23]⟩)]
def Hc:Sig:=⟨[(1,.sl 116),(7,.row 0),(14,.sl 93),(15,ii),(16,ii)],[.row 119]⟩
def Hf:GM:=[(.normal,⟨[(0,.str),(1,ii),(2,ii),(3,ii),(4,ii),(11,.row 0)],[.row 254]⟩)]
def Hg:GO:=[(0,.pc 0 0),(1,.pr 1 69 0),(2,.val 97)]
def Hh:GM:=[(.normal,⟨[(0,.pc 0 0),(2,.pc 1 0),(3,.pc 2 0),(18,.bool)],[c2,c1,c1]⟩)]
def Hj:Sig:=⟨[(0,.val 97),(1,.sl 198)],[]⟩
def Hk:Sig:=⟨[(0,.val 93),(1,.sl 116)],[]⟩
def Hl:Sig:=⟨[(0,.str),(1,ii),(4,.pc 0 0),(6,.pc 1 0),(7,ii)],[c21,c21]⟩
def Hm:Sig:=⟨[(3,.row 0),(26,.row 1),(27,ii),(28,ii)],[.row 9,.row 77]⟩
def Hn:Sig:=⟨[(1,.sl 198),(2,.pc 0 0),(7,.row 1),(8,ii)],[c7,.row 204]⟩
def Ho:Sig:=⟨[(0,.str),(1,ii),(2,ii)],[]⟩
def Hp:GN:=[c7,c29,.orow 69]
def Hs:Sig:=⟨[],[c3,.row 155]⟩
def Ht:GM:=[(.ret,⟨[(0,.row 0)],[.row 3]⟩)]
def Hu:GM:=[(.ret,⟨[(4,ii)],[.row 47,c8]⟩),(.exit 0,⟨[],[.row 47,c8]⟩)]
def Hv:Sig:=⟨[(0,.pc 0 0),(4,.pc 2 0),(5,.pc 3 0),(7,.bool)],Jz⟩
def Hw:Sig:=⟨[(0,.pc 0 0),(4,.pc 2 0),(5,.pc 3 0),(6,.bool)],Jz⟩
def Hx:GL:=(.ret,⟨[(4,.row 0)],[.row 3]⟩)
def Hy:Sig:=⟨[(0,.row 0),(1,.clo 124 [.pc 1 0])],[.row 47,c8]⟩
def Hz:Sig:=⟨[(0,.row 0),(1,.clo 122 [.pc 1 0])],[.row 47,c8]⟩
def H0:Sig:=⟨[(0,.pc 0 0),(3,.pc 1 0),(4,.pc 2 0)],[c2,c6,c1]⟩
def H3:Sig:=⟨[(0,.ifc 229 (.pc 0 0)),(1,ii),(2,ii),(7,ii)],Jf⟩
def H4:GN:=[c6,c30,c11,c11,.cell [.sl 119,.sl 116,.row 5,ii,.und],.orow 33]
def H5:GL:=(.ret,⟨[],J1⟩)
def H6:Sig:=⟨[(1,.pc 0 0),(5,.row 1),(6,ii)],[c7,.row 198]⟩
def H7:GO:=[(0,.agg [ii,.str,ii,ii,.nils])]
def H8:GM:=[(.ret,⟨[(10,.row 0)],[.row 305]⟩),(.normal,⟨[],[]⟩)]
def H9:Sig:=⟨[(0,.str),(1,ii),(2,ii),(3,ii),(4,ii)],[]⟩
def HA:Sig:=⟨[(0,.sl 93),(1,.clo 162 [.pc 0 0])],[c23]⟩
def HB:GL:=(.normal,⟨[],J1⟩)
def HC:GL:=(.exit 0,⟨[],[.forow 69]⟩)
def HD:Sig:=⟨[(0,.pc 0 0),(2,.pc 2 0),(3,.pc 3 0)],Jz⟩
def HE:Sig:=⟨[(0,.pc 0 0),(2,.pc 1 0),(3,.pc 2 0)],Ke⟩
def HF:GO:=[(0,.pc 0 0),(3,.pc 2 0),(4,.pc 3 0),(5,ii),(6,.pc 4 0)]
def HG:Sig:=⟨[(34,.row 0),(35,ii),(36,ii)],[.row 39]⟩
def HH:Sig:=⟨[(2,.pc 2 0)],[c3,.row 155,c20,.row 97]⟩
def HI:GM:=[(.exit 0,⟨[(1,ii)],[]⟩)]
def HJ:GL:=(.ret,⟨[(0,.val 47)],J1⟩)
def HK:GM:=[(.ret,⟨[(4,ii)],[c22]⟩),(.exit 0,⟨[],[c22]⟩)]
def HL:Sig:=⟨[(0,.pr 0 69 0),(1,.str)],[.forow 69]⟩
def HM:GN:=[c7,c17,c47,c7,c12,.row 202]
def HN:Sig:=⟨[(3,.pc 1 0),(4,.pc 2 0)],[c2,c6,c1]⟩
def HO:Sig:=⟨[(3,.pc 0 0),(7,.pc 1 0),(10,ii)],Hp⟩
def HP:Sig:=⟨[(0,.val 202),(1,ii)],[c4,.forow 69]⟩
def HQ:GM:=[(.ret,⟨[(4,.sl 47)],[]⟩),(.normal,⟨[],[]⟩)]
def HS:Sig:=⟨[(0,.str),(1,ii),(2,.clo 76 [])],[]⟩
def HT:Sig:=⟨[(0,.str),(1,ii),(2,.clo 72 [])],[]⟩
def HU:Sig:=⟨[(0,.str),(1,ii),(2,.clo 71 [])],[]⟩
def HV:GN:=[c18,c27,.orow 110]
def HX:Sig:=⟨[(0,.ifc 229 (.pc 0 0)),(1,ii)],Jf⟩
def HY:GO:=[(0,.pc 0 0),(4,.pc 2 0),(5,.pc 3 0),(10,.pc 4 0)]
def HZ:GM:=[(.pan (.ifc 190 (.agg [ii,ii])),JJ),(.normal,JM)]
def Ga:Sig:=⟨[(0,.val 93),(1,.pc 0 0)],[c23]⟩
def Gb:GN:=[.forow 33,c6]
def Gc:GO:=[(4,.pc 0 0),(6,.pc 1 0)]
def Gd:GO:=[(0,.val 47),(1,.pc 0 0)]
def Ge:Sig:=⟨[(4,.pc 1 0)],[c2,c38,.row 93]⟩
def Gf:Sig:=⟨[(7,.pc 0 0)],[c4,.orow 69]⟩
def Gg:GN:=[c53,c11,c11,.forow 33]
def Gh:GN:=[c0,.forow 33,c6,c8,c8]
def Gj:Sig:=⟨[(4,.pc 0 0),(5,ii)],[c21]⟩
def Gk:GN:=[c18,c27,.forow 110,c57,.row 3,.obj 0 230]
def Gl:Sig:=⟨[(0,.bool)],[c3,.row 155]⟩
def Gm:GN:=[c53,c11,c11,.row 116]
def Gn:GN:=[c4,.forow 69,c7,c26,c55,c7,c12,.row 202]
def Gp:Sig:=⟨[(0,.val 142),(1,ii)],[]⟩
def Gq:Sig:=⟨[(0,.bool)],[.row 47,c8]⟩
def Gs:Sig:=⟨[(0,.val 97),(1,ii)],[]⟩
def Gu:Sig:=⟨[(5,.row 0)],[.row 3]⟩
def Gv:Sig:=⟨[(0,ii)],[.row 47,c8]⟩
def Gw:Sig:=⟨[(0,.row 0)],[.row 4]⟩
def Gy:GM:=[(.ret,⟨[],Ku⟩)]
def Gz:Sig:=⟨[(0,.str),(1,ii)],[]⟩
def G0:Sig:=⟨[(0,.ifc 3 (ii))],Ku⟩
def G1:GM:=[(.normal,J7)]
def G3:Sig:=⟨[(0,.val 142)],[c2]⟩
def G5:GN:=[c25,.row 80,c6,c5]
def G6:Sig:=⟨[(1,ii),(7,ii)],Jf⟩
def G7:GN:=[c4,.forow 69,c7,c26,c50,.row 202]
def G8:Sig:=⟨[],[c4,.forow 69]⟩
def G9:Sig:=⟨[(0,.bool)],[c22]⟩
def GA:Sig:=⟨[(0,.val 77)],[]⟩
def GB:Sig:=⟨[(0,.val 39)],[]⟩
def GC:Sig:=⟨[(0,.pc 0 0)],Jf⟩
def GD:Sig:=⟨[(0,.bool)],[c8]⟩
def GE:Sig:=⟨[(0,.bool)],[c2]⟩
def GF:Sig:=⟨[(0,ii)],[c22]⟩
def GG:Sig:=⟨[(0,.bool)],Jf⟩
def GI:GN:=[c4,.orow 69,c7]
def GJ:GM:=[(.exit 0,⟨[(3,ii)],[]⟩)]
def P0:=spA d [] 71 1 f71 K9 Jm (hfind [])
instance:Ok P0:=kA
def P1:=spA d [P0] 70 1 f70 HU Jw (hfind [(4,.loop HU HI),(7,.cut [(.normal,⟨[(0,.str),(1,ii),(2,.clo 71 []),(17,.bool)],[]⟩)])])
instance:Ok P1:=kA
def P2:=spA d [] 72 1 f72 K9 Jm (hfind [(3,.cut K0)])
instance:Ok P2:=kA
def P3:=spA d [P2] 70 1 f70 HT Jw (hfind [(4,.loop HT HI),(7,.cut [(.normal,⟨[(0,.str),(1,ii),(2,.clo 72 []),(17,.bool)],[]⟩)])])
instance:Ok P3:=kA
def I4:Sig:=Ho
def O4:List (XK×Sig):=[(.ret,⟨[(0,ii),(1,.nili)],[]⟩),(.ret,⟨[(0,ii),(1,.ifc 311 (.und))],[]⟩)]
def F4(x:I4.ty CC):U7 (zf CC O4):=ww x
def P4:Spec CC:=⟨129,2,I4,O4,F4⟩
theorem K4:P4.OK prog:=zi6 (fn:=f129) (by kernel_rfl) (by kernel_rfl) (by kernel_rfl) (λs hs v h w=>Tryz.strconv_ParseInt_10_at64_ok s hs v h w) (λs hs h w Z hg hw=>by
    obtain⟨⟨t,p,a⟩,_⟩:=hg
    refine(Tryz.strconv_ParseInt_10_at64_syntax s hs h _ w (hw 0 0 _ a) (.inr ⟨_,_,rfl⟩)).mono ?_
    rintro e w' ⟨N,rfl,_,_,hb⟩
    exact⟨_,rfl,hb⟩) (λs hs h w Z hg hw=>by
    obtain⟨_,t,p,a⟩:=hg
    refine(Tryz.strconv_ParseInt_10_at64_range s hs h _ w (hw 1 0 _ a) (.inr ⟨_,_,rfl⟩)).mono ?_
    rintro e w' ⟨N,rfl,_,_,hb⟩
    exact⟨_,rfl,hb⟩)
instance:Ok P4:=⟨K4⟩
def P5:=spA d [] 74 1 f74 K9 Jm (hfind [(3,.cut K0)])
instance:Ok P5:=kA
def P6:=spA d [P4,P5] 73 2 f73 Ho [(.ret,Gp)] (hfind [(5,.cut [(.normal,⟨[(0,.str),(1,ii),(2,ii),(6,.pc 0 0),(8,.str),(9,ii),(10,.nili)],[c44]⟩),(.normal,⟨[(0,.str),(1,ii),(2,ii),(6,.pc 0 0),(8,.str),(9,ii),(10,.ifc 311 (.und))],[c44]⟩)])])
instance:Ok P6:=kA
def P7:=spA d [P5,P2] 76 1 f76 K9 Jm (hfind [(3,.cut K0)])
instance:Ok P7:=kA
def P8:=spA d [P7] 70 1 f70 HS Jw (hfind [(4,.loop HS HI),(7,.cut [(.normal,⟨[(0,.str),(1,ii),(2,.clo 76 []),(17,.bool)],[]⟩)])])
instance:Ok P8:=kA
def P9:=spA d [] 130 1 f130 JZ Jm (hfind [(9,.cut Jb),(13,.cut Jb),(17,.cut Jb),(21,.cut Jb),(25,.cut Jb),(29,.cut Jb),(33,.cut Jb),(37,.cut Jb),(41,.cut Jb),(45,.cut Jb),(49,.cut Jb),(53,.cut Jb),(57,.cut Jb),(61,.cut Jb),(65,.cut Jb),(69,.cut Jb),(73,.cut Jb),(77,.cut Jb),(81,.cut Jb)])
instance:Ok P9:=kA
def P10:=spA d [P9] 75 2 f75 Ho [(.ret,Gp)] (hfind [(15,.cut [(.normal,⟨[(6,.pc 0 0),(8,.pc 1 0)],[c44,c44]⟩)])])
instance:Ok P10:=kA
def P11:=spA d [] 169 1 f169 K8 Jm (hfind [(3,.cut Jb)])
instance:Ok P11:=kA
def P12:=spA d [P11] 131 1 f131 K8 Jm (hfind [])
instance:Ok P12:=kA
def I13:Sig:=⟨[(0,.str),(1,.int .u8)],[]⟩
def O13:List (XK×Sig):=Jw
def F13(x:I13.ty CC):U7 (zf CC O13):=Wg x
def P13:Spec CC:=⟨132,1,I13,O13,F13⟩
theorem K13:P13.OK prog:=zhJ (fn:=f132) (by kernel_rfl) (by kernel_rfl) (by kernel_rfl) λs c w=>Tryz.strings_IndexByte s c w
instance:Ok P13:=⟨K13⟩
def P14:=spA d [P12,P13] 77 1 f77 JZ [(.ret,JZ)] (hfind [(6,.loop ⟨[(0,.str),(5,.agg [.str,.str,.str]),(6,ii)],[]⟩ [(.ret,⟨[(2,.str)],[]⟩),(.exit 0,JZ)])])
instance:Ok P14:=kA
def P15:=spA d [P1,P2,P3,P6,P5,P8,P10,P14] 37 3 f37 JZ [(.ret,⟨Km,[.row 142]⟩)] (hfind [(2,.cut [(.ret,⟨[(2,.row 0),(3,ii),(4,ii)],[.row 142]⟩)]),(19,.loop ⟨Kc,[.row 142]⟩ [JN,(.exit 0,⟨[(0,.str),(5,.row 0)],[.row 142]⟩)]),(26,.cut [(.normal,⟨Kc,[.row 142]⟩),JN]),(36,.cut [(.normal,⟨[(0,.str),(5,.row 0),(6,ii),(7,.pc 1 0),(8,ii),(9,.int .u8),(29,.bool)],[.row 142,c44]⟩)]),(37,.cut [(.exit 1,⟨Kc,[.row 142]⟩),JD]),(49,.cut [JD]),(53,.cut [JD]),(59,.cut [JD])])
instance:Ok P15:=kA
def P16:=spA d [] 39 1 f39 Jy [(.ret,G3)] (hfind [])
instance:Ok P16:=kA
def P17:=spA d [P16] 78 1 f78 ⟨Kr,[c2]⟩ [(.ret,GE)] (hfind [(5,.cut [(.normal,⟨[(4,.bool)],[c2]⟩)])])
instance:Ok P17:=kA
def P18:=spA d [P17] 40 1 f40 ⟨Kr,[c2]⟩ [(.ret,GE)] (hfind [])
instance:Ok P18:=kA
def P19:=spA d [P16] 82 0 f82 ⟨Ka,[c2]⟩ [Ja] (hfind [])
instance:Ok P19:=kA
def P20:=spA d [P16,P19] 133 1 f133 ⟨Ka,[c2]⟩ [Ja,(.ret,G3)] (hfind [])
instance:Ok P20:=kA
def P21:=spA d [P20] 79 1 f79 Jy [Ja,(.ret,⟨H7,[c2]⟩)] (hfind [])
instance:Ok P21:=kA
def P22:=spA d [P18,P19] 42 0 f42 ⟨Kr,[c2]⟩ [Ja,(.ret,⟨[],[c2]⟩)] (hfind [])
instance:Ok P22:=kA
def P23:=spA d [P16,P18,P22,P21] 83 1 f83 Jy [Kj,Ja] (hfind [(14,.cut [Je,Ja]),(20,.cut [Je])])
instance:Ok P23:=kA
def P24:=spA d [P21,P22,P23] 81 1 f81 Jy [Ja,Jj] (hfind [])
instance:Ok P24:=kA
def P25:=spA d [P24,P18] 80 1 f80 ⟨[(0,.pc 0 0),(1,.clo 81 [.tup [.pc 0 0]])],[c2]⟩ [Ja,Kk] (hfind [(6,.loop ⟨[(0,.pc 0 0),(1,.clo 81 [.tup [.pc 0 0]]),(5,.row 1)],[c2,.row 93]⟩ [Ja,K7])])
instance:Ok P25:=kA
def P26:=spA d [] 171 1 f171 ⟨[(0,.val 93),(1,.pc 0 0)],[c11]⟩ [(.ret,⟨[(0,.val 93)],[c11]⟩)] (hfind [])
instance:Ok P26:=kA
def P27:=spA d [P22] 172 1 f172 ⟨JP,[c2]⟩ [Ja,Kj] (hfind [])
instance:Ok P27:=kA
def P28:=spA d [P20] 177 1 f177 ⟨Ka,[c2]⟩ [Ja,(.ret,⟨[(0,ii)],[c2]⟩)] (hfind [])
instance:Ok P28:=kA
def P29:=spA d [P21,P22,P28] 173 1 f173 ⟨Ka,[c2]⟩ [Ja,(.ret,⟨H7,[c2]⟩)] (hfind [])
instance:Ok P29:=kA
def P30:=spA d [P18,P28] 178 1 f178 ⟨JP,[c2]⟩ [Ja,Kj] (hfind [(6,.cut [Ja,(.normal,HN)]),(10,.cut [Ja,(.normal,HN)])])
instance:Ok P30:=kA
def P31:=spA d [P16,P28,P18,P21,P30] 135 1 f135 Jy [Ja,Kj] (hfind [(8,.cut [Ja,(.ret,⟨[(2,.pc 1 0)],[c2,c1]⟩),Jp]),(20,.cut [Ja,(.normal,Jt)])])
instance:Ok P31:=kA
def P32:=spA d [P18,P19] 136 1 f136 Jy [(.ret,⟨[(0,.str)],[c2]⟩),Ja] (hfind [(6,.loop ⟨[(0,.pc 0 0),(5,.agg [.str,.str,.str]),(6,ii)],[c2]⟩ [(.ret,⟨[(2,.str)],[c2]⟩),(.exit 0,Jy)])])
instance:Ok P32:=kA
def P33:=spA d [P31,P32] 87 1 f87 Jy [Ja,Jj] (hfind [(7,.draw (od [1,3,5,7,9,10,12,15,16]) [])])
instance:Ok P33:=kA
def P34:=spA d [P31,P18] 80 1 f80 ⟨[(0,.pc 0 0),(1,.clo 135 [.tup [.pc 0 0]])],[c2]⟩ [Ja,Kk] (hfind [(6,.loop ⟨[(0,.pc 0 0),(1,.clo 135 [.tup [.pc 0 0]]),(5,.row 1)],[c2,.row 93]⟩ [Ja,K7])])
instance:Ok P34:=kA
def P35:=spA d [P22,P18,P34] 175 1 f175 Jy [Ja,Kk] (hfind [])
instance:Ok P35:=kA
def I36:Sig:=Jy
def O36:List (XK×Sig):=[Ja,Kj]
def H36:Nat->U7 Hint:=hfind [(8,.cut [Ja,(.ret,Jt),Je]),(16,.cut [Ja,(.ret,Jt),Je]),(24,.cut [Ja,(.ret,Jt),Je]),(30,.cut [Je]),(51,.cut [Ja,Ha,Je]),(59,.cut [Ja,Ha,Je]),(69,.cut [Ja,Ha,Je]),(70,.loop KX []),(83,.cut [(.normal,⟨[(0,.pc 0 0),(2,.pc 1 0),(3,.pc 2 0),(4,.str),(5,ii),(69,.pc 3 0),(87,.bool)],[c2,c1,c1,.cell []]⟩)]),(84,.cut [(.pan (.ifc 135 (.agg [ii,ii])),⟨[],[c2,c1,c1,.cell []]⟩),(.ret,⟨[(2,.pc 1 0)],[c2,c9,c1,.cell [],.row 93]⟩),(.normal,KX)]),(88,.draw (od [1,3,5,7,9,10,12,15,16]) [])]
def F36(x:I36.ty CC):U7 (zf CC O36):=zoW ⟨d⟩ [P16,P18,P28,P21,P31,P17,P35,P22,P30] lpO prog f193 1 I36 O36 H36 x
def P36:Spec CC:=⟨193,1,I36,O36,F36⟩
theorem K36:Spec.OK prog P36:=zxT Oks.o ZF ZE H36 (by kernel_rfl) (by kernel_rfl) (by kernel_rfl) λx=>rfl
instance:Ok P36:=⟨K36⟩
def P37:=spA d [P17,P35,P18,P31,P22,P36] 176 1 f176 ⟨JP,[c2]⟩ [Ja,Jj] (hfind [(6,.cut [Ja,(.ret,Ge),(.normal,H0)]),(16,.cut [Ja,(.ret,Ge),(.normal,H0)]),(24,.draw (od [1,3,5,6,8,10,13,14]) [])])
instance:Ok P37:=kA
def I38:Sig:=⟨KI,[c2]⟩
def O38:List (XK×Sig):=[Ja,Jj]
def H38:Nat->U7 Hint:=hfind [(7,.draw (od [1,3,5,6,8,10,13,14]) [])]
def I39:Sig:=Jy
def O39:List (XK×Sig):=[Ja,Kj]
def H39:Nat->U7 Hint:=hfind [(10,.cut [Ja,(.ret,Jt),Jp]),(20,.cut [Ja,(.ret,Jt),Jp]),(22,.cut [Ja,(.normal,Jt)]),(26,.cut [Ja,(.ret,Jt),Jp]),(28,.cut [Ja,(.normal,Jt)]),(32,.cut [Ja,(.ret,Jt),Jp]),(38,.cut [Ja,(.normal,⟨[(2,.pc 1 0),(6,.pc 2 0)],Ke⟩)]),(39,.draw (od [1,3,5,6,8,10,13,14]) []),(46,.cut [Ja,(.ret,Jt),Jp]),(52,.cut [Ja,(.ret,Jt),Jp]),(58,.cut [Ja,(.normal,⟨[(0,.pc 0 0),(2,.pc 1 0),(7,.pc 2 0)],Ke⟩)]),(66,.cut [Ja,(.ret,Jt),Jp]),(72,.cut [Ja,(.ret,Jt),Jp]),(82,.cut [Ja,(.normal,Jt)])]
def I40:Sig:=Jy
def O40:List (XK×Sig):=[Ja,Jj]
def H40:Nat->U7 Hint:=hfind [(6,.cut [(.normal,⟨[(0,.pc 0 0),(2,.pc 1 0),(3,.pc 2 0),(16,.bool)],[c2,c1,c1]⟩)]),(16,.loop HE [Ja,(.exit 0,HE)]),(24,.draw (od [1,3,5,6,8,10,13,14]) [])]
def zhS(h:I40.ty CC->U7 (zf CC O40)):Spec CC:=⟨84,1,I40,O40,h⟩
def zlu(h:I40.ty CC->U7 (zf CC O40))(x:I38.ty CC):U7 (zf CC O38):=wh ⟨d⟩ [P33,zhS h] lpO prog f174 1 I38 O38 H38 x
def zze(h:I40.ty CC->U7 (zf CC O40)):Spec CC:=⟨174,1,I38,O38,zlu h⟩
theorem zzf{h:I40.ty CC->U7 (zf CC O40)}(hh:Spec.OK prog (zhS h)):Spec.OK prog (zze h):=yF (zu (okP P33) (zu hh yG)) ZF ZE H38 (by kernel_rfl) (by kernel_rfl) (by kernel_rfl) λx=>rfl
def zlv(h:I40.ty CC->U7 (zf CC O40))(x:I39.ty CC):U7 (zf CC O39):=wh ⟨d⟩ [P16,P18,P21,P26,P27,P29,zze h,zhS h,P17,P31,P35,P37] lpO prog f134 1 I39 O39 H39 x
def zzg(h:I40.ty CC->U7 (zf CC O40)):Spec CC:=⟨134,1,I39,O39,zlv h⟩
theorem zzh{h:I40.ty CC->U7 (zf CC O40)}(hh:Spec.OK prog (zhS h)):Spec.OK prog (zzg h):=yF (zu (okP P16) (zu (okP P18) (zu (okP P21) (zu (okP P26) (zu (okP P27) (zu (okP P29) (zu (zzf hh) (zu hh (zu (okP P17) (zu (okP P31) (zu (okP P35) (zu (okP P37) yG)))))))))))) ZF ZE H39 (by kernel_rfl) (by kernel_rfl) (by kernel_rfl) λx=>rfl
def zo3(h:I40.ty CC->U7 (zf CC O40))(x:I40.ty CC):U7 (zf CC O40):=wh ⟨d⟩ [P16,P17,P19,P22,P18,zzg h] lpO prog f84 1 I40 O40 H40 x
def zBH(h:I40.ty CC->U7 (zf CC O40)):Spec CC:=⟨84,1,I40,O40,zo3 h⟩
theorem zBI{h:I40.ty CC->U7 (zf CC O40)}(hh:Spec.OK prog (zhS h)):Spec.OK prog (zBH h):=yF (zu (okP P16) (zu (okP P17) (zu (okP P19) (zu (okP P22) (zu (okP P18) (zu (zzh hh) yG)))))) ZF ZE H40 (by kernel_rfl) (by kernel_rfl) (by kernel_rfl) λx=>rfl
def zfG:Nat->I40.ty CC->U7 (zf CC O40)
 |0=>λ_=>q
 |k+1=>zo3 (zfG k)
theorem zo4:∀k,Spec.OK prog (zhS (zfG k))
 |0=>⟨f84,by kernel_rfl,by kernel_rfl,by kernel_rfl,λx r h=>by cases h⟩
 |k+1=>zBI (zo4 k)
def F40(x:I40.ty CC):U7 (zf CC O40):=zfG 100000 x
def P40:Spec CC:=⟨84,1,I40,O40,F40⟩
theorem K40:Spec.OK prog P40:=zo4 100000
instance:Ok P40:=⟨K40⟩
def P41:=spA d [P21,P22,P17,P25,P18,P19,P23,P16,P40] 41 1 f41 ⟨Ka,[c2]⟩ [Ja,Jj] (hfind [(11,.cut [Ja,KD]),(21,.cut [Ja,(.normal,⟨[(0,.pc 0 0),(4,.pc 1 0),(5,.pc 2 0),(6,.pc 3 0)],[c2,c1,c9,c6,.row 93]⟩)]),(31,.draw (od [1,3,5,7,8,10,12,15,16]) [])])
instance:Ok P41:=kA
def P42:=spA d [P16,P18,P21,P19] 85 1 f85 Jy [Jj,Ja] (hfind [(9,.cut [(.normal,⟨[(0,.pc 0 0),(2,.pc 1 0),(3,.pc 2 0),(13,.bool)],[c2,c1,c1]⟩)]),(12,.cut [KY,Ja]),(17,.cut Hh),(21,.cut Hh),(24,.cut [Ja,KY])])
instance:Ok P42:=kA
def P43:=spA d [P21,P18,P22] 86 1 f86 Jy [Ja,Jj] (hfind [(9,.cut [Ja,KY])])
instance:Ok P43:=kA
def P44:=spA d [P43,P18] 80 1 f80 ⟨[(0,.pc 0 0),(1,.clo 86 [.tup [.pc 0 0]])],[c2]⟩ [Ja,Kk] (hfind [(6,.loop ⟨[(0,.pc 0 0),(1,.clo 86 [.tup [.pc 0 0]]),(5,.row 1)],[c2,.row 93]⟩ [Ja,K7])])
instance:Ok P44:=kA
def P45:=spA d [P33,P18] 80 1 f80 ⟨[(0,.pc 0 0),(1,.clo 87 [.tup [.pc 0 0]])],[c2]⟩ [Ja,Kk] (hfind [(6,.loop ⟨[(0,.pc 0 0),(1,.clo 87 [.tup [.pc 0 0]]),(5,.row 1)],[c2,.row 93]⟩ [Ja,K7])])
instance:Ok P45:=kA
def P46:=spA d [P21,P42,P18,P44,P22,P45] 43 1 f43 ⟨Ka,[c2]⟩ [Ja,Jj] (hfind [(9,.cut [Ja,KD]),(11,.draw (od [1,3,5,7,9,10,12,15,16]) []),(17,.cut [Ja,KD]),(18,.draw (od [1,3,5,7,9,10,12,15,16]) [])])
instance:Ok P46:=kA
def I47:Sig:=Kf
def O47:List (XK×Sig):=Jw
def H47:Nat->U7 Hint:=hfind [(8,.loop ⟨[(3,ii),(7,.sl 93),(8,ii),(9,ii)],[]⟩ GJ)]
def ztW(h:I47.ty CC->U7 (zf CC O47)):Spec CC:=⟨44,1,I47,O47,h⟩
def zo5(h:I47.ty CC->U7 (zf CC O47))(x:I47.ty CC):U7 (zf CC O47):=wh ⟨d⟩ [ztW h] lpO prog f44 1 I47 O47 H47 x
def zBJ(h:I47.ty CC->U7 (zf CC O47)):Spec CC:=⟨44,1,I47,O47,zo5 h⟩
theorem zBK{h:I47.ty CC->U7 (zf CC O47)}(hh:Spec.OK prog (ztW h)):Spec.OK prog (zBJ h):=yF (zu hh yG) ZF ZE H47 (by kernel_rfl) (by kernel_rfl) (by kernel_rfl) λx=>rfl
def zlw:Nat->I47.ty CC->U7 (zf CC O47)
 |0=>λ_=>q
 |k+1=>zo5 (zlw k)
theorem zzi:∀k,Spec.OK prog (ztW (zlw k))
 |0=>⟨f44,by kernel_rfl,by kernel_rfl,by kernel_rfl,λx r h=>by cases h⟩
 |k+1=>zBK (zzi k)
def F47(x:I47.ty CC):U7 (zf CC O47):=zlw 100000 x
def P47:Spec CC:=⟨44,1,I47,O47,F47⟩
theorem K47:Spec.OK prog P47:=zzi 100000
instance:Ok P47:=⟨K47⟩
def I48:Sig:=⟨[(0,.pc 0 0),(1,.pc 1 0),(2,.pc 2 0),(3,.ifc 135 (.agg [ii,ii]))],Gt⟩
def O48:List (XK×Sig):=[(.ret,⟨[],[c1,c11,c11,.row 93]⟩)]
def H48:Nat->U7 Hint:=hfind [(5,.draw (od [1,3,5,7,9,10,12,14]) [])]
def F48(x:I48.ty CC):U7 (zf CC O48):=zb6 ⟨d⟩ [] lpO prog f38 0 I48 O48 H48 x
def P48:Spec CC:=⟨38,0,I48,O48,F48⟩
theorem K48:Spec.OKD prog P48:=Vl yG ZF ZE H48 (by kernel_rfl) (by kernel_rfl) (by kernel_rfl) λx=>rfl
def I49:Sig:=⟨KR,Gt⟩
def O49:List (XK×Sig):=[(.ret,⟨[],Gt⟩)]
def H49:Nat->U7 Hint:=hfind []
def F49(x:I49.ty CC):U7 (zf CC O49):=zb6 ⟨d⟩ [] lpO prog f38 0 I49 O49 H49 x
def P49:Spec CC:=⟨38,0,I49,O49,F49⟩
theorem K49:Spec.OKD prog P49:=Vl yG ZF ZE H49 (by kernel_rfl) (by kernel_rfl) (by kernel_rfl) λx=>rfl
def I50:Sig:=JZ
def O50:List (XK×Sig):=[(.ret,⟨[(0,.val 93),(1,ii),(2,ii)],[]⟩)]
def H50:Nat->U7 Hint:=hfind [(9,.draw (od [1,3,5,6,8,10]) []),(13,.loop ⟨[(2,.pc 0 0),(3,.pc 1 0),(4,.pc 2 0),(5,.sl 142),(19,.clo 38 [.pc 0 0,.pc 1 0,.pc 2 0])],[c1,c11,c11]⟩ []),(18,.loop ⟨[(2,.pc 0 0),(3,.pc 1 0),(4,.pc 2 0),(6,.pc 3 0)],[c9,c11,c11,c2,.row 93]⟩ [(.pan (.ifc 135 (.agg [ii,ii])),Hi),(.exit 0,Hi)]),(25,.cut Jo),(33,.draw (od [1,3,5,7,11,13,8,14,17,21,9366,22,18]) Jo),(38,.draw (od [1,3,5,7,11,13,8,14,17,21,9366,22,18]) Jo)]
def F50(x:I50.ty CC):U7 (zf CC O50):=zhK ⟨d⟩ [P15,P16,P18,P41,P22,P46,P47] (P49) (P48) lpO prog f20 3 I50 O50 H50 x
def P50:Spec CC:=⟨20,3,I50,O50,F50⟩
theorem K50:Spec.OK prog P50:=zhL Oks.o K49 K48 ZF ZE H50 (by kernel_rfl) (by kernel_rfl) (by kernel_rfl) λx=>rfl
instance:Ok P50:=⟨K50⟩
def P51:=spA d [] 114 2 f114 Kf [(.ret,⟨[(0,.row 0),(1,.row 1)],[.row 93,.row 93]⟩)] (hfind [(6,.loop Kd [(.exit 0,⟨[(2,.row 0),(3,.row 1)],[.row 93,.row 93]⟩)]),(22,.cut [(.normal,Kd)]),(26,.cut [(.normal,Kd)])])
instance:Ok P51:=kA
def P52:=spA d [] 145 1 f145 ⟨[(0,.val 116),(1,.pc 0 0)],[c23]⟩ Kz (hfind [])
instance:Ok P52:=kA
def P53:=spA d [P52] 144 1 f144 ⟨[(0,.sl 116),(1,.clo 145 [.pc 0 0])],[c23]⟩ Hb (hfind [(6,.loop ⟨[(0,.sl 116),(1,.clo 145 [.pc 0 0]),(7,ii),(8,ii)],[c23]⟩ Kb)])
instance:Ok P53:=kA
def P54:=spA d [P53] 98 1 f98 ⟨[(0,.sl 116),(1,.str)],[]⟩ Jw (hfind [])
instance:Ok P54:=kA
def P55:=spA d [] 115 0 f115 ⟨[(0,.bool),(1,.val 93),(2,ii)],[]⟩ [J8,(.ret,⟨[],[]⟩)] (hfind [])
instance:Ok P55:=kA
def P56:=spA d [] 162 1 f162 Ga Kz (hfind [])
instance:Ok P56:=kA
def P57:=spA d [P56] 163 1 f163 HA Hb (hfind [(6,.loop ⟨[(0,.sl 93),(1,.clo 162 [.pc 0 0]),(7,ii),(8,ii)],[c23]⟩ Kb)])
instance:Ok P57:=kA
def P58:=spA d [P57] 161 1 f161 HA Kz (hfind [])
instance:Ok P58:=kA
def P59:=spA d [P58] 116 1 f116 ⟨[(0,.sl 93),(1,.str)],[]⟩ Jm (hfind [])
instance:Ok P59:=kA
def P60:=spA d [] 164 1 f164 Ga Kz (hfind [(3,.cut [(.normal,⟨[(3,.bool)],[c23]⟩)])])
instance:Ok P60:=kA
def P61:=spA d [P60] 163 1 f163 ⟨[(0,.sl 93),(1,.clo 164 [.pc 0 0])],[c23]⟩ Hb (hfind [(6,.loop ⟨[(0,.sl 93),(1,.clo 164 [.pc 0 0]),(7,ii),(8,ii)],[c23]⟩ Kb)])
instance:Ok P61:=kA
def P62:=spA d [P61] 117 1 f117 ⟨[(0,.val 116),(1,.str),(2,.sl 93)],[]⟩ Jw (hfind [])
instance:Ok P62:=kA
def P63:=spA d [] 165 1 f165 ⟨[(0,.sl 9),(1,.str)],[]⟩ Jw (hfind [(6,.loop ⟨[(0,.sl 9),(1,.str),(7,ii),(8,ii)],[]⟩ KP)])
instance:Ok P63:=kA
def P64:=spA d [P63,P62,P55,P54] 118 0 f118 ⟨[(0,.sl 116),(1,.pc 0 0),(2,.val 93),(3,.sl 93),(4,.sl 93)],KZ⟩ [Jk,(.ret,⟨[],KZ⟩)] (hfind [(10,.cut [(.normal,⟨[(0,.sl 116),(1,.pc 0 0),(3,.sl 93),(4,.sl 93),(7,.pc 3 0),(20,ii),(21,.bool)],[c16,.row 241,.row 305,c6]⟩)]),(13,.cut [Jk,(.normal,⟨[],KZ⟩)]),(15,.draw (od [1,3,5,7,9,11,13,15,17,19,20,23,25,26]) []),(16,.draw (od [1,3,5,7,9,11,12]) []),(19,.cut [Jk,(.normal,⟨[],KZ⟩)]),(23,.draw (od [1,3,5,7,9,11,13,15,17,19,21,23,25,27,29,31,33,34]) [Jk,(.normal,⟨[(3,.sl 93),(4,.sl 93),(7,.pc 3 0)],[c16,.row 241,.row 305,c6]⟩)])])
instance:Ok P64:=kA
def P65:=spA d [] 166 1 f166 H9 [(.ret,⟨[(0,.row 0)],[.row 305]⟩)] (hfind [(8,.cut H8),(14,.cut H8)])
instance:Ok P65:=kA
def P66:=spA d [P62,P55,P65] 119 0 f119 ⟨[(0,.pc 0 0),(1,.val 93),(2,.sl 93)],KZ⟩ [Jk,(.ret,⟨[],[.cell [.str,ii,ii,.row 1,.row 3],.row 241,.gone,.row 305]⟩)] (hfind [(8,.loop JB [Jk,(.exit 0,⟨[(0,.pc 0 0),(4,.pc 3 0),(6,.pc 4 0)],GH⟩)]),(16,.cut [(.normal,JB),Jk]),(26,.draw (od [1,3,5,7,9,11,12,15]) []),(28,.draw (od [1,3,5,7,9,11,13,15,17,19,21,23,25,27,29,31,33,35,37,39,41,43,45,47,49,51,52]) [Jk,(.normal,⟨[(0,.pc 0 0),(2,.sl 93),(4,.pc 3 0),(6,.pc 4 0),(7,ii),(9,ii),(11,.sl 93),(12,ii),(13,ii)],GH⟩)]),(29,.cut [(.normal,JB)]),(31,.draw (od [1,3,5,7,9,11,13,15,17,19,21,23,25,27,29,31,33,35,37,39,41,42,44,47,49,50]) [])])
instance:Ok P66:=kA
def P67:=spA j [P51,P54,P55,P59,P62,P64,P66] 66 1 f66 ⟨[(0,.sl 116),(1,.val 93)],[]⟩ [J8,(.ret,⟨[(0,.agg [.str,ii,ii,.row 0,.row 1])],[.row 241,.row 305]⟩)] (hfind [(7,.draw (od [1,3,5,11,6,9,12]) []),(14,.loop Kg [J8,(.exit 0,⟨[(0,.sl 116),(3,.pc 0 0),(4,.pc 1 0),(5,.sl 93),(6,.row 2),(7,.pc 3 0)],[c6,c10,.row 93,c52,.row 241]⟩)]),(22,.cut [J8,(.normal,Kg)]),(26,.draw (od [1,3,5,7,9,15,10,13,16]) []),(32,.cut [J8,(.normal,JS)]),(34,.draw (od [1,3,5,7,9,11,13,14,17]) []),(35,.draw (od [1,3,5,7,9,11,13,15,17,19,21,22]) [J8,(.normal,JS)]),(45,.loop ⟨[(4,.pc 0 0),(5,.sl 93),(7,.pc 1 0),(91,.sl 93),(92,ii),(93,ii)],[c10,c32,.row 241,.row 305]⟩ [J8,(.exit 2,⟨[(4,.pc 0 0),(7,.pc 1 0)],[c10,c32,.row 241,.row 305]⟩)])])
instance:Ok P67:=kA
def I68:Sig:=⟨[(0,.pc 0 0),(1,.pc 1 0),(2,.pc 2 0),(3,.ifc 190 (.agg [ii,ii]))],Gm⟩
def O68:List (XK×Sig):=[(.ret,⟨[],[c30,c11,c11,.row 116]⟩)]
def H68:Nat->U7 Hint:=hfind [(5,.draw (od [1,3,5,7,8,10,12]) [])]
def F68(x:I68.ty CC):U7 (zf CC O68):=zb6 ⟨d⟩ [] lpO prog f65 0 I68 O68 H68 x
def P68:Spec CC:=⟨65,0,I68,O68,F68⟩
theorem K68:Spec.OKD prog P68:=Vl yG ZF ZE H68 (by kernel_rfl) (by kernel_rfl) (by kernel_rfl) λx=>rfl
def I69:Sig:=⟨KR,Gm⟩
def O69:List (XK×Sig):=[(.ret,⟨[],Gm⟩)]
def H69:Nat->U7 Hint:=hfind []
def F69(x:I69.ty CC):U7 (zf CC O69):=zb6 ⟨d⟩ [] lpO prog f65 0 I69 O69 H69 x
def P69:Spec CC:=⟨65,0,I69,O69,F69⟩
theorem K69:Spec.OKD prog P69:=Vl yG ZF ZE H69 (by kernel_rfl) (by kernel_rfl) (by kernel_rfl) λx=>rfl
def I70:Sig:=Kf
def O70:List (XK×Sig):=[(.ret,⟨Km,[.row 116]⟩)]
def H70:Nat->U7 Hint:=hfind [(3,.loop ⟨[(1,.pc 0 0),(2,.pc 1 0),(3,.pc 2 0),(4,.pc 3 0),(7,.clo 65 [.pc 1 0,.pc 2 0,.pc 3 0])],[c6,c30,c11,c11]⟩ []),(8,.loop JM [(.pan (.ifc 190 (.agg [ii,ii])),JJ),(.exit 0,JJ)]),(21,.cut HZ),(22,.draw (od [3,5,8198,8200,8,0,10,12,6,8,10,12]) HZ)]
def F70(x:I70.ty CC):U7 (zf CC O70):=zhK ⟨d⟩ [P67] (P69) (P68) lpO prog f33 3 I70 O70 H70 x
def P70:Spec CC:=⟨33,3,I70,O70,F70⟩
theorem K70:Spec.OK prog P70:=zhL Oks.o K69 K68 ZF ZE H70 (by kernel_rfl) (by kernel_rfl) (by kernel_rfl) λx=>rfl
instance:Ok P70:=⟨K70⟩
def P71:=spA d [P63,P54] 120 2 f120 Hk [(.ret,⟨[(0,.val 47),(1,ii)],[]⟩)] (hfind [(7,.cut [(.ret,⟨[(4,.pc 0 0),(5,ii)],[c8]⟩),(.normal,⟨Gc,[c8,c8]⟩)])])
instance:Ok P71:=kA
def P72:=spA d [] 122 1 f122 ⟨Gd,[c8]⟩ [(.ret,GD)] (hfind [])
instance:Ok P72:=kA
def P73:=spA d [P72] 27 1 f27 Hz [(.ret,Gv)] (hfind [(6,.loop ⟨[(0,.row 0),(1,.clo 122 [.pc 1 0]),(7,ii),(8,ii)],[.row 47,c8]⟩ Hu)])
instance:Ok P73:=kA
def P74:=spA d [P73] 121 1 f121 Hz [(.ret,Gq)] (hfind [])
instance:Ok P74:=kA
def P75:=spA d [] 123 1 f123 ⟨[(0,.val 47),(1,.sl 116)],[]⟩ Jm (hfind [(3,.cut Jb)])
instance:Ok P75:=kA
def P76:=spA d [] 124 1 f124 ⟨Gd,[c8]⟩ [(.ret,GD)] (hfind [(3,.cut [(.normal,⟨[(3,.bool)],[c8]⟩)])])
instance:Ok P76:=kA
def P77:=spA d [P76] 27 1 f27 Hy [(.ret,Gv)] (hfind [(6,.loop ⟨[(0,.row 0),(1,.clo 124 [.pc 1 0]),(7,ii),(8,ii)],[.row 47,c8]⟩ Hu)])
instance:Ok P77:=kA
def P78:=spA d [P77] 121 1 f121 Hy [(.ret,Gq)] (hfind [])
instance:Ok P78:=kA
def P79:=spA d [P71,P74,P75,P78] 67 3 f67 Hk [(.ret,⟨[(0,.val 119),(1,ii),(2,ii)],[]⟩)] (hfind [(11,.draw (od [1,3,5,6,9,11]) []),(18,.loop ⟨[(1,.sl 116),(2,.pc 0 0),(4,.pc 1 0),(7,.pc 2 0),(8,ii),(29,.sl 93),(30,ii),(31,ii)],[c6,c17,c36,.row 47]⟩ [J4,(.exit 0,⟨[(1,.sl 116),(2,.pc 0 0),(4,.pc 1 0),(7,.pc 2 0),(8,ii)],[c6,c17,c36,.row 47]⟩)]),(37,.cut [J4,(.normal,Kq)]),(39,.draw (od [1,3,5,6,9,11]) []),(43,.cut [J4,(.normal,Kq)]),(45,.draw (od [1,3,5,7,9,11,13,14,17,19]) []),(48,.cut [(.normal,⟨[(1,.sl 116),(2,.pc 0 0),(4,.pc 1 0),(7,.pc 2 0),(8,ii),(10,.pc 3 0),(11,.pc 4 0),(29,.sl 93),(30,ii),(31,ii),(65,.bool)],[c6,c17,c47,c6,c8,.row 47]⟩)]),(51,.draw (od [1,3,5,7,9,11,12,15,17]) []),(65,.draw (od [1,3,5,7,9,11,13,15,16,19,21]) [])])
instance:Ok P79:=kA
def P80:=spA d [P79] 34 3 f34 Hk [(.ret,⟨Km,[.row 119]⟩)] (hfind [(8,.loop Hc [K6,(.exit 0,⟨[(7,.row 0)],[.row 119]⟩)]),(16,.cut [(.normal,Hc),K6])])
instance:Ok P80:=kA
def P81:=spA d [] 137 1 f137 K9 Jm (hfind [(3,.cut K0)])
instance:Ok P81:=kA
def P82:=spA d [] 138 1 f138 K9 Jm (hfind [(3,.cut K0)])
instance:Ok P82:=kA
def P83:=spA d [] 139 1 f139 JZ Jm (hfind [(9,.cut Jb),(13,.cut Jb),(17,.cut Jb),(21,.cut Jb),(25,.cut Jb),(29,.cut Jb),(33,.cut Jb),(37,.cut Jb),(41,.cut Jb),(45,.cut Jb),(49,.cut Jb),(53,.cut Jb),(57,.cut Jb),(61,.cut Jb),(65,.cut Jb),(69,.cut Jb),(73,.cut Jb),(77,.cut Jb),(81,.cut Jb)])
instance:Ok P83:=kA
def P84:=spA d [] 140 1 f140 Gz Jw (hfind [(7,.cut [(.normal,⟨[(0,.str),(1,ii),(5,.str)],[]⟩)]),(12,.cut [(.normal,⟨[(0,.str),(1,ii),(25,.bool)],[]⟩)]),(25,.cut Jr),(29,.cut Jr),(33,.cut Jr),(37,.cut Jr),(41,.cut Jr),(45,.cut Jr),(49,.cut Jr),(53,.cut Jr),(57,.cut Jr),(61,.cut Jr),(65,.cut Jr),(69,.cut Jr),(73,.cut Jr)])
instance:Ok P84:=kA
def P85:=spA d [P81,P82,P83,P84] 88 2 f88 Gz [(.ret,⟨[(0,.val 155),(1,ii)],[]⟩)] (hfind [(13,.cut [(.ret,Gj),(.normal,⟨[(0,.str),(1,ii),(4,.pc 0 0),(6,.pc 1 0),(7,ii),(9,.bool)],[c21,c21]⟩)]),(16,.loop Hl [(.exit 0,Hl)]),(30,.cut [(.normal,⟨[(0,.str),(1,ii),(4,.pc 0 0),(6,.pc 1 0),(7,ii),(47,.bool)],[c21,c21]⟩)]),(52,.cut [(.normal,⟨Gc,[c21,c21]⟩)]),(62,.cut [(.ret,Gj),(.normal,⟨[(0,.str),(1,ii),(4,.pc 0 0),(6,.pc 1 0)],[c21,c21]⟩)]),(69,.loop J6 [(.exit 2,J6)]),(88,.cut [(.normal,J6)]),(94,.cut [(.normal,J6)]),(103,.cut [(.normal,⟨[(0,.str),(1,ii),(4,.pc 0 0),(6,.pc 1 0),(7,ii),(13,ii),(14,.bool),(16,.bool)],[c21,c21]⟩)]),(108,.cut [(.normal,⟨[(0,.str),(1,ii),(4,.pc 0 0),(6,.pc 1 0),(7,ii),(13,ii),(115,.bool)],[c21,c21]⟩)])])
instance:Ok P85:=kA
def P86:=spA d [P85] 45 3 f45 JZ [(.ret,⟨Km,[.row 155]⟩)] (hfind [(16,.loop ⟨Kc,[.row 155]⟩ [JN,(.exit 0,⟨[(0,.str),(5,.row 0)],[.row 155]⟩)]),(23,.cut [(.normal,⟨Kc,[.row 155]⟩),JN]),(26,.cut [(.normal,⟨[(0,.str),(5,.row 0),(6,ii),(25,.bool)],[.row 155]⟩)]),(38,.loop ⟨Kc,[.row 155]⟩ [(.exit 2,⟨Kc,[.row 155]⟩)]),(41,.cut [(.normal,⟨[(0,.str),(5,.row 0),(6,ii),(41,.bool)],[.row 155]⟩)])])
instance:Ok P86:=kA
def P87:=spA d [] 89 1 f89 ⟨Kr,[c3,.row 155]⟩ [(.ret,Gl)] (hfind [(3,.draw (od [1,3,5,7,9,11,13,15,17,19,21,23]) []),(5,.draw (od [1,3,5,7,9,11,13,15,17,19,21,23,25,27,29,31,33,35,37,39,41,43,45,47,49,51,53,55,57]) [(.normal,⟨[(4,.bool)],[c3,.row 155]⟩)])])
instance:Ok P87:=kA
def P88:=spA d [P87] 46 1 f46 ⟨Kr,[c3,.row 155]⟩ [(.ret,Gl)] (hfind [(7,.cut [(.normal,⟨[(5,.bool)],[c3,.row 155]⟩)])])
instance:Ok P88:=kA
def P89:=spA d [] 92 0 f92 ⟨Ka,[c3,.row 155]⟩ [(.ret,Hs)] (hfind [(2,.cut [(.normal,Hs)]),(5,.draw (od [1,3,5,7,9,11,13,15,17,19,21,23,25,27,28]) [])])
instance:Ok P89:=kA
def P90:=spA d [P89] 90 1 f90 Jl [(.ret,⟨H7,[c3,.row 155]⟩)] (hfind [(3,.draw (od [1,3,5,7,9,11,13,15,17,19,20,22]) []),(6,.cut [(.normal,⟨[(0,.pc 0 0),(2,.pc 2 0),(3,.pc 3 0),(23,.bool)],[c3,.row 155,c1,c21]⟩)])])
instance:Ok P90:=kA
def P91:=spA d [P88,P89] 48 0 f48 ⟨Kr,[c3,.row 155]⟩ [(.ret,Hs)] (hfind [(4,.cut [(.normal,Hs)])])
instance:Ok P91:=kA
def P92:=spA d [P88,P91,P90] 91 1 f91 Jl JY (hfind [(3,.draw (od [1,3,5,7,9,11,13,15,17,19,21,23,25,27,29,31,33,35,37,39,41,43,45,46,48]) []),(19,.cut G1),(26,.cut G1)])
instance:Ok P92:=kA
def P93:=spA d [P89] 180 1 f180 Jl [(.ret,⟨[(0,ii)],[c3,.row 155]⟩)] (hfind [(3,.draw (od [1,3,5,7,9,11,13,15,17,19,20,22]) []),(6,.cut [(.normal,⟨[(0,.pc 0 0),(3,.pc 2 0),(23,.bool)],[c3,.row 155,c21]⟩)])])
instance:Ok P93:=kA
def P94:=spA d [P88,P93] 183 1 f183 ⟨[(0,.pc 0 0),(1,.val 97)],[c3,.row 155]⟩ JY (hfind [(19,.cut [(.normal,⟨[(3,.pc 2 0),(4,.pc 3 0)],[c3,.row 155,c7,c1]⟩)])])
instance:Ok P94:=kA
def P95:=spA d [P93,P88,P90,P94] 142 1 f142 Jl JY (hfind [(3,.draw (od [1,3,5,7,9,11,13,15,17,19,21,23]) []),(6,.draw (od [1,3,5,7,9,11,13,15,17,19,21,23]) [])])
instance:Ok P95:=kA
def P96:=spA d [P88,P89] 143 1 f143 Jl [(.ret,⟨[(0,.str)],[c3,.row 155]⟩)] (hfind [(8,.loop ⟨[(0,.pc 0 0),(3,.row 2),(4,ii)],[c3,.row 155,.row 9]⟩ [(.ret,⟨[(2,.str)],[c3,.row 155]⟩),(.exit 0,Jl)])])
instance:Ok P96:=kA
def P97:=spA d [P95,P96] 96 1 f96 Jl Jg (hfind [])
instance:Ok P97:=kA
def P98:=spA d [P91,P88,P95] 181 1 f181 Jl [(.ret,⟨[(0,.row 2)],[c3,.row 155,.row 97]⟩)] (hfind [(8,.cut [(.normal,⟨[(0,.pc 0 0),(18,.bool)],[c3,.row 155]⟩)]),(20,.loop ⟨[(0,.pc 0 0),(4,.pc 2 0),(5,.row 3)],[c3,.row 155,c7,.row 97]⟩ [(.exit 0,⟨[(0,.pc 0 0),(5,.row 2)],[c3,.row 155,.row 97]⟩)])])
instance:Ok P98:=kA
def P99:=spA d [P88,P93,P90,P95,P87,P98,P91,P94] 194 1 f194 Jl JY (hfind [(3,.draw (od [1,3,5,7,9,11,13,15,17,19,21,23,24,26]) []),(47,.cut G1),(60,.draw (od [1,3,5,7,9,11,13,15,17,19,21,23]) []),(106,.draw (od [1,3,5,7,9,11,13,15,17,19,21,23,25,27,29,31,33,35,37]) [(.normal,⟨[(0,.pc 0 0),(2,.pc 2 0),(3,.pc 3 0),(14,.bool),(119,.bool)],G4⟩)]),(117,.cut [(.normal,⟨[(2,.pc 2 0),(16,.pc 3 0)],Jz⟩)])])
instance:Ok P99:=kA
def zlx:=spA d [P90,P87,P98,P88,P95,P91,P99] 182 1 f182 Jl Jg (hfind [])
instance:Ok zlx:=kA
def zly:Sig:=⟨KI,[c3,.row 155]⟩
def zlz:List (XK×Sig):=Jg
def zzj:Nat->U7 Hint:=hfind []
def zlA:Sig:=Jl
def zlB:List (XK×Sig):=Jg
def zzk:Nat->U7 Hint:=hfind [(3,.draw (od [1,3,5,7,9,11,13,15,17,19,21,23]) []),(8,.draw (od [1,3,5,7,9,11,13,15,17,19,21,23]) []),(9,.cut [(.normal,⟨[(0,.pc 0 0),(2,.pc 2 0),(3,ii),(4,.str)],[c3,.row 155,c1]⟩)]),(10,.draw (od [1,3,5,7,9,11,13,15,17,19,21,23]) []),(20,.cut [(.ret,HH),Jh]),(32,.cut [(.normal,⟨[(2,.pc 2 0),(5,.pc 3 0),(6,.pc 4 0)],[c3,.row 155,c1,c54,.cell [ii,.str,ii,ii,.row 6],.row 97,.row 97]⟩)]),(50,.cut [Jh]),(61,.cut [(.normal,⟨[(0,.pc 0 0),(2,.pc 2 0),(4,.str),(5,.pc 3 0),(49,.str),(108,.bool)],G4⟩)]),(64,.cut [Jh]),(74,.cut [(.normal,⟨[(0,.pc 0 0),(2,.pc 2 0),(5,.pc 3 0),(9,.pc 4 0)],[c3,.row 155,c1,c1,c1]⟩)]),(86,.cut [Jh]),(95,.cut [Jh]),(102,.cut [Jh]),(108,.cut [Jh])]
def XH:Sig:=Jl
def XI:List (XK×Sig):=Jg
def zzl:Nat->U7 Hint:=hfind [(3,.draw (od [1,3,5,7,9,11,13,15,17,19,21,23,24,26]) []),(8,.cut [(.normal,⟨[(0,.pc 0 0),(2,.pc 2 0),(3,.pc 3 0),(28,.bool)],G4⟩)]),(9,.cut G1),(18,.loop HD [(.exit 0,HD)])]
def zem(h:XH.ty CC->U7 (zf CC XI)):Spec CC:=⟨93,1,XH,XI,h⟩
def zgz(h:XH.ty CC->U7 (zf CC XI))(x:zly.ty CC):U7 (zf CC zlz):=wh ⟨d⟩ [P97,zem h] lpO prog f179 1 zly zlz zzj x
def zvS(h:XH.ty CC->U7 (zf CC XI)):Spec CC:=⟨179,1,zly,zlz,zgz h⟩
theorem zvT{h:XH.ty CC->U7 (zf CC XI)}(hh:Spec.OK prog (zem h)):Spec.OK prog (zvS h):=yF (zu (okP P97) (zu hh yG)) ZF ZE zzj (by kernel_rfl) (by kernel_rfl) (by kernel_rfl) λx=>rfl
def zgA(h:XH.ty CC->U7 (zf CC XI))(x:zlA.ty CC):U7 (zf CC zlB):=wh ⟨d⟩ [zvS h,P88,zem h,P90,P91,P93,P87,P95,P98,zlx] lpO prog f141 1 zlA zlB zzk x
def zvU(h:XH.ty CC->U7 (zf CC XI)):Spec CC:=⟨141,1,zlA,zlB,zgA h⟩
theorem zvV{h:XH.ty CC->U7 (zf CC XI)}(hh:Spec.OK prog (zem h)):Spec.OK prog (zvU h):=yF (zu (zvT hh) (zu (okP P88) (zu hh (zu (okP P90) (zu (okP P91) (zu (okP P93) (zu (okP P87) (zu (okP P95) (zu (okP P98) (zu (okP zlx) yG)))))))))) ZF ZE zzk (by kernel_rfl) (by kernel_rfl) (by kernel_rfl) λx=>rfl
def zjd(h:XH.ty CC->U7 (zf CC XI))(x:XH.ty CC):U7 (zf CC XI):=wh ⟨d⟩ [P87,P89,P91,P88,zvU h] lpO prog f93 1 XH XI zzl x
def zBb(h:XH.ty CC->U7 (zf CC XI)):Spec CC:=⟨93,1,XH,XI,zjd h⟩
theorem zBc{h:XH.ty CC->U7 (zf CC XI)}(hh:Spec.OK prog (zem h)):Spec.OK prog (zBb h):=yF (zu (okP P87) (zu (okP P89) (zu (okP P91) (zu (okP P88) (zu (zvV hh) yG))))) ZF ZE zzl (by kernel_rfl) (by kernel_rfl) (by kernel_rfl) λx=>rfl
def zcf:Nat->XH.ty CC->U7 (zf CC XI)
 |0=>λ_=>q
 |k+1=>zjd (zcf k)
theorem zje:∀k,Spec.OK prog (zem (zcf k))
 |0=>⟨f93,by kernel_rfl,by kernel_rfl,by kernel_rfl,λx r h=>by cases h⟩
 |k+1=>zBc (zje k)
def zzo(x:XH.ty CC):U7 (zf CC XI):=zcf 100000 x
def ztX:Spec CC:=⟨93,1,XH,XI,zzo⟩
theorem zBP:Spec.OK prog ztX:=zje 100000
instance:Ok ztX:=⟨zBP⟩
def ztY:=spA d [P90,P91,P88,P92,P87,P89,ztX] 47 1 f47 ⟨Ka,[c3,.row 155]⟩ Jg (hfind [(14,.loop Hw [(.exit 0,KH)]),(17,.cut [(.normal,⟨[(0,.pc 0 0),(4,.pc 2 0),(5,.pc 3 0),(6,.bool),(31,.bool)],Jz⟩)]),(38,.cut [(.normal,Hw)]),(44,.draw (od [1,3,5,7,9,11,13,15,17,19,21,23,24,26]) []),(50,.cut [(.normal,⟨HY,[c3,.row 155,c1,c54,c7,.row 97]⟩)]),(56,.cut [(.normal,⟨HY,[c3,.row 155,c1,c54,c1,.row 97]⟩)])])
instance:Ok ztY:=kA
def ztZ:=spA d [P88,P90,P89] 94 1 f94 Jl JY (hfind [(3,.draw (od [1,3,5,7,9,11,13,15,17,19,21,23,25,27,29,31,33,35,37,39,41,43,45,46,48]) []),(30,.loop ⟨[(0,.pc 0 0),(2,.pc 2 0),(3,.pc 3 0),(6,.row 4),(7,ii)],[c3,.row 155,c1,c1,.row 9]⟩ [(.ret,HH),(.exit 0,J7)])])
instance:Ok ztZ:=kA
def zt0:=spA d [P90,P88,P91] 95 1 f95 Jl Jg (hfind [(11,.cut [(.normal,⟨[(2,.pc 2 0),(3,.pc 3 0)],Jz⟩)])])
instance:Ok zt0:=kA
def zt1:=spA d [P90,ztZ,P88,zt0,P91,P97] 49 1 f49 ⟨Ka,[c3,.row 155]⟩ Jg (hfind [(16,.loop Hv [(.exit 0,KH)]),(32,.cut [(.normal,Hv)]),(39,.loop ⟨[(0,.pc 0 0),(4,.pc 2 0),(5,.pc 3 0),(9,.bool)],Jz⟩ [(.exit 2,KH)])])
instance:Ok zt1:=kA
def VM:Sig:=KE
def VN:List (XK×Sig):=Jw
def zzp:Nat->U7 Hint:=hfind [(8,.loop ⟨[(1,.pc 0 0),(3,ii),(4,ii)],[c7]⟩ GJ)]
def zo6(h:VM.ty CC->U7 (zf CC VN)):Spec CC:=⟨50,1,VM,VN,h⟩
def zjf(h:VM.ty CC->U7 (zf CC VN))(x:VM.ty CC):U7 (zf CC VN):=wh ⟨d⟩ [zo6 h] lpO prog f50 1 VM VN zzp x
def zBd(h:VM.ty CC->U7 (zf CC VN)):Spec CC:=⟨50,1,VM,VN,zjf h⟩
theorem zBe{h:VM.ty CC->U7 (zf CC VN)}(hh:Spec.OK prog (zo6 h)):Spec.OK prog (zBd h):=yF (zu hh yG) ZF ZE zzp (by kernel_rfl) (by kernel_rfl) (by kernel_rfl) λx=>rfl
def zgB:Nat->VM.ty CC->U7 (zf CC VN)
 |0=>λ_=>q
 |k+1=>zjf (zgB k)
theorem zvW:∀k,Spec.OK prog (zo6 (zgB k))
 |0=>⟨f50,by kernel_rfl,by kernel_rfl,by kernel_rfl,λx r h=>by cases h⟩
 |k+1=>zBe (zvW k)
def zzq(x:VM.ty CC):U7 (zf CC VN):=zgB 100000 x
def zt2:Spec CC:=⟨50,1,VM,VN,zzq⟩
theorem zBQ:Spec.OK prog zt2:=zvW 100000
instance:Ok zt2:=⟨zBQ⟩
def zo7:=spA d [P86,P88,ztY,P91,zt1,zt2] 21 3 f21 JZ [(.ret,⟨[(0,.val 97),(1,ii),(2,ii)],[]⟩)] (hfind [(18,.loop JF [(.exit 0,JF)]),(21,.draw (od [1,3,5,7,9,11,13,15,17,19,21,23,25,27,29,31,33,35,37]) [(.normal,⟨[(2,.pc 0 0),(8,.pc 1 0),(9,.pc 2 0),(48,.bool)],[c1,c43,c9,.row 155,.row 97]⟩)]),(25,.cut [(.normal,JF)]),(27,.draw (od [1,3,5,7,9,11,13,15,17,19,21,23]) []),(44,.cut [(.normal,JF)]),(54,.draw (od [1,3,5,7,9,11,13,15,17,18,21,23]) [])])
instance:Ok zo7:=kA
def zo8:=spA d [] 125 1 f125 Gs [(.ret,⟨[(0,.row 0)],[.row 97]⟩)] (hfind [(8,.loop ⟨Kh,[c7,.row 97]⟩ [(.exit 0,⟨[(5,.row 0)],[.row 97]⟩)]),(19,.cut [(.normal,⟨Kh,[c7,.row 97]⟩)])])
instance:Ok zo8:=kA
def zhT:=spA d [] 106 1 f106 ⟨[(0,.sl 198),(1,.str)],[]⟩ Jw (hfind [(6,.loop ⟨[(0,.sl 198),(1,.str),(5,ii)],[]⟩ KP)])
instance:Ok zhT:=kA
def zo9:=spA d [] 126 1 f126 ⟨[(0,.sl 97),(1,.str)],[]⟩ Jw (hfind [(6,.loop ⟨[(0,.sl 97),(1,.str),(5,ii)],[]⟩ KP),(16,.cut [(.normal,⟨[(0,.sl 97),(1,.str),(5,ii),(27,.bool)],[]⟩)])])
instance:Ok zo9:=kA
def zpa:=spA d [] 127 1 f127 H9 [(.ret,⟨[(0,.row 0)],[.row 254]⟩)] (hfind [(7,.cut Hf),(12,.cut [(.normal,⟨[(0,.str),(1,ii),(2,ii),(3,ii),(4,ii),(11,.row 0),(29,.bool)],[.row 254]⟩)]),(13,.cut Hf),(19,.cut [(.normal,⟨[(11,.row 0)],[.row 254]⟩)])])
instance:Ok zpa:=kA
def zt3:=spA d [zo8,zhT,zo9,zpa] 68 3 f68 ⟨[(0,.row 0),(1,.val 97)],[.row 198]⟩ [(.ret,⟨[(0,.val 198),(1,ii),(2,ii)],[.row 198]⟩)] (hfind [(17,.draw (od [1,3,5,6,9,11]) []),(25,.draw (od [1,3,5,6,9,11]) []),(32,.loop KO [Jq,(.exit 0,⟨[(0,.row 0),(4,.pc 1 0),(7,.row 2),(8,.row 3),(9,.pc 4 0),(10,.pc 5 0)],JG⟩)]),(40,.cut [Jq,(.normal,KO)]),(47,.loop ⟨[(0,.row 0),(4,.pc 1 0),(7,.row 2),(8,.row 3),(9,.pc 4 0),(10,.pc 5 0),(12,ii),(13,.pc 6 0),(14,ii)],Kl⟩ [Jq,(.exit 2,⟨[(0,.row 0),(4,.pc 1 0),(7,.row 2),(8,.row 3),(9,.pc 4 0),(10,.pc 5 0),(12,ii),(13,.pc 6 0)],Kl⟩)]),(57,.draw (od [1,3,5,7,9,11,13,15]) []),(60,.draw (od [1,3,5,6,9,11]) []),(69,.cut [Jq,(.normal,⟨[(0,.row 0),(4,.pc 1 0),(7,.row 2),(8,.row 3),(9,.pc 4 0),(10,.pc 5 0),(12,ii),(13,.pc 6 0),(15,ii)],Kl⟩)]),(73,.cut [(.normal,⟨[(0,.row 0),(4,.pc 1 0),(7,.row 2),(8,.row 3),(9,.pc 4 0),(10,.pc 5 0),(12,ii),(13,.pc 6 0),(15,ii),(93,.bool)],Kl⟩)]),(76,.draw (od [1,3,5,6,9,11]) []),(90,.cut [JC,Jq]),(95,.cut [(.normal,⟨[(0,.row 0),(4,.pc 1 0),(7,.row 2),(8,.row 3),(9,.pc 4 0),(10,.pc 5 0),(16,ii),(107,.str),(111,.bool)],JG⟩)]),(98,.cut [Jq,JC]),(104,.cut [(.normal,⟨[(4,.pc 1 0),(7,.row 2),(8,.row 3),(9,.pc 4 0),(10,.pc 5 0)],JG⟩)]),(114,.draw (od [1,3,5,6,9,11]) []),(120,.cut [Jq,JC]),(130,.draw (od [1,3,5,6,9,11]) []),(138,.draw (od [1,3,5,6,9,11]) []),(142,.cut [(.normal,⟨[(4,.pc 1 0),(7,.row 2),(8,.row 3),(9,.pc 4 0),(10,.pc 5 0),(16,ii),(167,.bool)],JG⟩)]),(145,.draw (od [1,3,5,6,9,11]) []),(153,.loop JW [Ki,(.exit 5,⟨[(4,.pc 1 0),(10,.pc 2 0)],[.row 198,c10,.cell [.str,ii,ii,.row 3,.row 4],.row 251,.row 254]⟩)]),(168,.loop KF [Ki,(.exit 7,⟨[(4,.pc 1 0),(7,.row 2),(8,.row 3),(10,.pc 4 0),(16,ii),(17,ii),(18,.row 5)],JQ⟩)]),(176,.cut [(.normal,KF),Ki]),(189,.cut [(.normal,⟨[(4,.pc 1 0),(7,.row 2),(8,.row 3),(10,.pc 4 0),(16,ii),(17,ii),(18,.row 5),(19,ii),(21,ii),(202,.bool)],JQ⟩)]),(192,.draw (od [1,3,5,7,9,11,12,15,17]) []),(198,.draw (od [1,3,5,7,9,11,13,15,17,19,21,23,25,27,29,31,33,35,37,39,41,43,45,47,49,51,53,54,57]) []),(202,.loop ⟨[(4,.pc 1 0),(7,.row 2),(8,.row 3),(10,.pc 4 0),(16,ii),(17,ii),(22,.row 5),(23,ii)],[.row 198,c10,.row 97,.row 97,c33,.row 254,.row 251,.row 254]⟩ [(.exit 9,JW)]),(211,.draw (od [1,3,5,7,9,11,12,14,17,18]) [])])
instance:Ok zt3:=kA
def zt4:=spA d [zt3] 35 3 f35 KE [(.ret,⟨Km,[.row 198]⟩)] (hfind [(8,.loop H6 [JN,(.exit 0,⟨[(5,.row 0)],[.row 198]⟩)]),(16,.cut [(.normal,H6),JN])])
instance:Ok zt4:=kA
def zt5:=spA d [zhT] 128 2 f128 Hj [(.ret,⟨[(0,.val 202),(1,.bool)],[]⟩)] (hfind [(10,.cut JA),(14,.cut JA),(18,.cut JA),(22,.cut JA),(28,.cut [(.ret,⟨[(4,.pc 0 0),(5,.bool)],[c12]⟩),(.normal,⟨Gc,[c12,c12]⟩)])])
instance:Ok zt5:=kA
def zt6:=spA d [zt5] 69 3 f69 Hj [(.ret,⟨[(0,.val 204),(1,ii),(2,ii)],[]⟩)] (hfind [(11,.draw (od [1,3,5,6,9,11]) []),(18,.loop KG [J4,(.exit 0,⟨[(1,.sl 198),(2,.pc 0 0),(4,.pc 1 0),(7,.pc 2 0),(8,ii)],[c7,c17,c36,.row 202]⟩)]),(26,.cut [J4,(.normal,KG)]),(33,.loop ⟨[(1,.sl 198),(2,.pc 0 0),(4,.pc 1 0),(7,.pc 2 0),(8,ii),(9,ii),(10,.pc 3 0),(11,ii)],[c7,c17,c46,c7,.row 202]⟩ [J4,(.exit 2,⟨[(1,.sl 198),(2,.pc 0 0),(4,.pc 1 0),(7,.pc 2 0),(8,ii),(9,ii),(10,.pc 3 0)],[c7,c17,c46,c7,.row 202]⟩)]),(43,.draw (od [1,3,5,7,9,11,13,15,17]) []),(46,.draw (od [1,3,5,6,9,11]) []),(57,.draw (od [1,3,5,7,9,11,12,15,17]) []),(64,.loop ⟨[(1,.sl 198),(2,.pc 0 0),(4,.pc 1 0),(7,.pc 2 0),(8,ii),(9,ii),(10,.pc 3 0),(12,.pc 4 0),(14,ii)],HM⟩ [J4,(.exit 4,⟨[(1,.sl 198),(2,.pc 0 0),(4,.pc 1 0),(7,.pc 2 0),(8,ii),(9,ii),(10,.pc 3 0),(12,.pc 4 0)],HM⟩)]),(76,.cut [(.normal,⟨[(1,.sl 198),(2,.pc 0 0),(4,.pc 1 0),(7,.pc 2 0),(8,ii),(9,ii),(10,.pc 3 0),(12,.pc 4 0),(14,ii),(107,.bool)],HM⟩)]),(79,.draw (od [1,3,5,7,9,11,12,15,17]) []),(94,.draw (od [1,3,5,7,9,11,13,14,17,19]) [])])
instance:Ok zt6:=kA
def zt7:=spA d [zt6] 36 3 f36 Hj [(.ret,⟨Km,[.row 204]⟩)] (hfind [(8,.loop Hn [K6,(.exit 0,⟨[(7,.row 0)],[.row 204]⟩)]),(16,.cut [(.normal,Hn),K6])])
instance:Ok zt7:=kA
def zt8:=spA d [P50,P70,P80,zo7,zt4,zt7] 19 2 f19 JZ [(.ret,⟨[(0,.val 55),(1,.bool)],[]⟩)] (hfind [(28,.loop JH [(.exit 0,⟨[(2,.pc 0 0),(9,ii),(10,.row 1),(12,ii),(19,.row 2),(22,.pc 3 0)],[c24,.row 119,.row 204,.cell [.row 4,.sl 116,.row 1,.row 5,.sl 198,.row 2],.row 93,.row 97]⟩)]),(41,.cut [(.normal,JH)]),(44,.draw (od [1,3,5,7,9,11,13,14,16,19,20]) []),(48,.draw (od [1,3,5,7,9,11,13,15,17,19,21,23,25,27,29,31,33,35,37,39,41,43,45,46,49]) [(.normal,⟨[(2,.pc 0 0),(3,.bool)],[.cell [.row 1,.sl 116,.row 2,.row 3,.sl 198,.row 4],.row 93,.row 119,.row 97,.row 204]⟩)])])
instance:Ok zt8:=kA
def zlC:=spA d [] 97 0 f97 ⟨[(0,.pc 0 0),(1,.bool),(2,ii)],HW⟩ [Ju,(.ret,⟨[],HW⟩)] (hfind [])
instance:Ok zlC:=kA
def zpb:=spA d [zlC] 52 0 f52 ⟨[(0,.pc 0 0),(1,.val 93),(2,.bool),(3,ii)],HW⟩ [Ju,(.ret,⟨[],HW⟩)] (hfind [])
instance:Ok zpb:=kA
def zpc:=spA d [] 28 1 f28 ⟨Gd,[c23]⟩ Kz (hfind [])
instance:Ok zpc:=kA
def zt9:=spA d [zpc] 27 1 f27 ⟨[(0,.sl 47),(1,.clo 28 [.pc 0 0])],[c23]⟩ Hb (hfind [(6,.loop ⟨[(0,.sl 47),(1,.clo 28 [.pc 0 0]),(7,ii),(8,ii)],[c23]⟩ Kb)])
instance:Ok zt9:=kA
def zcg:=spA d [zt9] 15 1 f15 ⟨[(0,.val 33),(1,.str)],[]⟩ Jw (hfind [])
instance:Ok zcg:=kA
def zua:=spA d [zpb,zcg,P54,zlC] 53 1 f53 ⟨JP,HW⟩ [Ju,(.ret,⟨[(0,.agg [.str,ii,.row 2])],[c15,.forow 33,.row 47]⟩)] (hfind [(12,.loop Ks [Ju,(.exit 0,⟨HF,[c15,.forow 33,c6,c26,c50,.row 47]⟩)]),(20,.cut [Ju,(.normal,Ks)]),(26,.draw (od [1,3,5,7,9,10,13,14]) []),(28,.cut [Ju,(.normal,⟨[(0,.pc 0 0),(3,.pc 2 0),(4,.pc 3 0),(5,ii),(6,.pc 4 0),(8,.pc 5 0),(9,.pc 6 0),(27,.sl 93),(28,ii),(29,ii)],[c15,.forow 33,c6,c26,c55,c6,c6,.row 47]⟩)]),(34,.cut [Ju,(.normal,⟨[(0,.pc 0 0),(3,.pc 2 0),(4,.pc 3 0),(5,ii),(6,.pc 4 0),(10,.pc 5 0),(27,.sl 93),(28,ii),(29,ii)],[c15,.forow 33,c6,c26,c58,c8,.row 47]⟩)]),(36,.draw (od [1,3,5,7,9,11,13,15,17,21,18,22,25,26]) []),(42,.draw (od [1,3,5,7,9,11,13,15,17,19,21,23,25,26]) [])])
instance:Ok zua:=kA
def Wm:=spA d [] 97 0 f97 ⟨[(0,.pc 0 0),(1,.bool),(2,ii)],J1⟩ [Jc,H5] (hfind [])
instance:Ok Wm:=kA
def zpd:=spA d [zcg,Wm] 146 1 f146 ⟨Kr,J1⟩ [Jc,HJ] (hfind [])
instance:Ok zpd:=kA
def zpe:=spA d [] 147 1 f147 ⟨[(0,.val 119),(1,.pc 0 0)],[c6]⟩ [(.ret,⟨[(0,.bool)],[c6]⟩)] (hfind [])
instance:Ok zpe:=kA
def zub:=spA d [zpe] 29 1 f29 ⟨[(0,.sl 119),(1,.clo 147 [.pc 0 0])],[c6]⟩ [(.ret,⟨[(0,ii)],[c6]⟩)] (hfind [(6,.loop ⟨[(0,.sl 119),(1,.clo 147 [.pc 0 0]),(7,ii),(8,ii)],[c6]⟩ [(.ret,⟨[(4,ii)],[c6]⟩),(.exit 0,⟨[],[c6]⟩)])])
instance:Ok zub:=kA
def zfH:=spA d [Wm,zpd] 104 0 f104 ⟨[(0,.pc 0 0),(1,.val 93),(2,.val 47)],J1⟩ [Jc,H5] (hfind [(15,.cut [Jc,HB]),(18,.cut [(.normal,⟨[(0,.pc 0 0),(4,.pc 2 0),(5,.pc 3 0),(6,.pc 4 0),(47,.bool)],Gh⟩)]),(19,.cut [Jc,HB]),(20,.cut [Jc,HB]),(21,.cut [Jc,HB])])
instance:Ok zfH:=kA
def zuc:=spA d [Wm,zfH] 103 0 f103 ⟨[(0,.pc 0 0),(1,.sl 93),(2,.sl 47)],J1⟩ [Jc,H5] (hfind [(5,.loop ⟨[(0,.pc 0 0),(2,.sl 47),(15,.sl 93),(16,ii),(17,ii)],J1⟩ [Jc,(.exit 0,⟨[],J1⟩)]),(16,.draw (od [1,3,5,7,9,11,12]) [])])
instance:Ok zuc:=kA
def zhU:=spA d [zub,Wm,zuc] 101 1 f101 ⟨JP,J1⟩ [Jc,HJ] (hfind [(7,.draw (od [1,3,5,7,9,11,13,15,17,19,21,22]) [])])
instance:Ok zhU:=kA
def zlD:=spA d [zpd,Wm,zhU] 100 1 f100 ⟨JP,J1⟩ [HJ,Jc] (hfind [(10,.cut [Kx,Jc,JI]),(22,.cut [Jc,(.normal,⟨[(4,.pc 2 0),(6,.pc 3 0)],Gx⟩)]),(29,.cut [(.normal,⟨[(0,.pc 0 0),(3,.pc 2 0),(4,.pc 3 0),(5,.pc 4 0),(13,ii),(35,.bool)],Gh⟩)]),(32,.cut [Jc,Kx,JI]),(34,.draw (od [1,3,5,7,9,11,15,17,19,21,23,25,12,26,28,30,32,34]) [Jc,(.normal,⟨[(0,.pc 0 0),(4,.pc 2 0),(5,.pc 3 0),(7,.pc 4 0),(8,.pc 5 0)],[c0,.forow 33,c8,c8,c8,c8]⟩)]),(36,.cut [Jc,(.normal,⟨[(4,.pc 2 0),(5,.pc 3 0)],Gx⟩)]),(43,.cut [(.normal,⟨[(0,.pc 0 0),(3,.pc 2 0),(4,.pc 3 0),(5,.pc 4 0),(13,ii),(63,.bool)],Gh⟩)]),(46,.cut [Jc,Kx,JI]),(56,.cut [(.normal,⟨[(4,.pc 2 0),(9,.pc 3 0)],Gx⟩)]),(64,.cut [Jc,Kx,JI])])
instance:Ok zlD:=kA
def zlE:=spA d [zcg,Wm] 99 0 f99 ⟨[(0,.pc 0 0),(1,.str),(2,.val 47)],[c0,.orow 33]⟩ [JK,(.ret,HR)] (hfind [(11,.draw (od [1,3,5,7,9,11,13,15,17,19,21,23,25,26]) []),(14,.draw (od [1,3,5,7,9,11,13,15,17,19,21,23,24,26,29,31,32]) [])])
instance:Ok zlE:=kA
def zpf:=spA d [] 102 1 f102 ⟨[(0,.val 33),(1,.pz 93 0)],[]⟩ Jm (hfind [])
instance:Ok zpf:=kA
def zlF:=spA d [zpf] 31 1 f31 ⟨[(0,.row 0),(1,.clo 102 [.pc 1 0])],Gb⟩ [(.ret,⟨[(0,ii)],Gb⟩)] (hfind [(6,.loop ⟨[(0,.row 0),(1,.clo 102 [.pc 1 0]),(7,ii),(8,ii)],Gb⟩ [(.ret,⟨[(4,ii)],Gb⟩),(.exit 0,⟨[],Gb⟩)])])
instance:Ok zlF:=kA
def zlG:=spA d [Wm,zfH] 103 0 f103 ⟨[(0,.pc 0 0),(1,.sl 93),(2,.nxp 1 33 47)],J1⟩ [Jc,H5] (hfind [(5,.loop ⟨[(0,.pc 0 0),(2,.nxp 1 33 47),(15,.sl 93),(16,ii),(17,ii)],J1⟩ [Jc,(.exit 0,⟨[],J1⟩)]),(16,.draw (od [1,3,5,7,9,11,12]) [])])
instance:Ok zlG:=kA
def VO:Sig:=⟨[(0,.pc 0 0),(1,.sl 93)],J1⟩
def VP:List (XK×Sig):=[JK,(.ret,HR)]
def zzr:Nat->U7 Hint:=hfind [(5,.loop JX [JK,(.exit 0,HR)]),(23,.cut Jd),(24,.draw (od [1,3,5,7,9,11,13,15,16,18]) Jd),(27,.cut Jd),(31,.cut Jd),(36,.draw (od [1,3,5,7,9,11,13,15,17,19,21,23,25,27,29,31,33,35,37,39,40]) []),(40,.cut [(.normal,⟨[(0,.pc 0 0),(4,.pc 2 0),(6,.pc 3 0),(11,.sl 93),(12,ii),(13,ii),(23,ii),(79,.bool)],[c0,.orow 33,c8,c6]⟩)]),(43,.cut Jd),(45,.draw (od [1,3,5,7,9,11,12]) []),(47,.draw (od [1,3,5,7,9,11,12]) []),(51,.loop ⟨[(0,.pc 0 0),(4,.pc 2 0),(11,.sl 93),(12,ii),(13,ii),(98,.sl 93),(99,ii),(100,ii)],[c0,.orow 33,c8]⟩ [JK,(.exit 3,JX)]),(66,.cut Jd),(70,.cut [(.normal,JX),JK])]
def zpg(h:VO.ty CC->U7 (zf CC VP)):Spec CC:=⟨54,0,VO,VP,h⟩
def zjg(h:VO.ty CC->U7 (zf CC VP))(x:VO.ty CC):U7 (zf CC VP):=wh ⟨d⟩ [zlD,zlE,zhU,zlF,Wm,zlG,zfH,zpg h] lpO prog f54 0 VO VP zzr x
def zBf(h:VO.ty CC->U7 (zf CC VP)):Spec CC:=⟨54,0,VO,VP,zjg h⟩
theorem zBg{h:VO.ty CC->U7 (zf CC VP)}(hh:Spec.OK prog (zpg h)):Spec.OK prog (zBf h):=yF (zu (okP zlD) (zu (okP zlE) (zu (okP zhU) (zu (okP zlF) (zu (okP Wm) (zu (okP zlG) (zu (okP zfH) (zu hh yG)))))))) ZF ZE zzr (by kernel_rfl) (by kernel_rfl) (by kernel_rfl) λx=>rfl
def zgC:Nat->VO.ty CC->U7 (zf CC VP)
 |0=>λ_=>q
 |k+1=>zjg (zgC k)
theorem zvX:∀k,Spec.OK prog (zpg (zgC k))
 |0=>⟨f54,by kernel_rfl,by kernel_rfl,by kernel_rfl,λx r h=>by cases h⟩
 |k+1=>zBg (zvX k)
def zzs(x:VO.ty CC):U7 (zf CC VP):=zgC 100000 x
def zud:Spec CC:=⟨54,0,VO,VP,zzs⟩
theorem zBR:Spec.OK prog zud:=zvX 100000
instance:Ok zud:=⟨zBR⟩
def zhV:=spA d [] 153 1 f153 Kf [(.ret,Kf)] (hfind [])
instance:Ok zhV:=kA
def zhW:=spA d [] 185 1 f185 Kf [(.ret,GA)] (hfind [])
instance:Ok zhW:=kA
def zch:=spA d [zhW] 155 1 f155 ⟨[(0,.val 93),(1,ii)],[]⟩ [(.ret,GA)] (hfind [])
instance:Ok zch:=kA
def zhX:=spA d [zhW] 156 1 f156 Kf [(.ret,⟨[(0,.row 0)],[.row 77]⟩)] (hfind [(8,.loop ⟨[(3,.row 0),(7,.sl 93),(8,ii),(9,ii)],[.row 77]⟩ [(.exit 0,⟨[(3,.row 0)],[.row 77]⟩)])])
instance:Ok zhX:=kA
def VQ:=spA d [] 59 1 f59 ⟨[(0,.pc 0 0),(1,.val 80)],[c25,.row 80]⟩ [(.ret,⟨[(0,ii)],[c27,.gone,.row 80]⟩)] (hfind [(3,.draw (od [1,3,5,7,9,11,12,14,17,19,20]) [])])
instance:Ok VQ:=kA
def zlH:=spA d [zch,zhX,zhW,VQ] 152 0 f152 ⟨[(0,.pc 0 0),(1,.val 93),(2,.val 93)],[c25,.row 80]⟩ [(.ret,JV)] (hfind [(11,.cut [(.normal,⟨[(0,.pc 0 0),(5,.pc 2 0),(6,.pc 3 0),(13,ii),(17,.bool)],G5⟩)]),(14,.cut J2),(15,.draw (od [1,3,5,7,9,13,17,10,14,18,21,22,25,26]) []),(18,.cut J2),(19,.draw (od [1,3,5,7,8,11,12]) []),(22,.cut J2),(23,.draw (od [1,3,5,7,8,11,12]) []),(26,.cut J2),(27,.draw (od [1,3,5,9,6,10,13,14,17,18]) []),(30,.cut J2),(31,.draw (od [1,3,5,9,6,10,13,14,17,18]) []),(35,.cut [(.normal,⟨[(0,.pc 0 0),(5,.pc 2 0),(6,.pc 3 0),(63,.bool)],G5⟩)]),(38,.cut [(.normal,⟨[(0,.pc 0 0),(6,.pc 2 0)],[c25,.row 80,c5]⟩)])])
instance:Ok zlH:=kA
def zlI:Sig:=⟨JP,[c25,.row 80]⟩
def zlJ:List (XK×Sig):=[(.ret,JV)]
def zzt:Nat->U7 Hint:=hfind [(9,.draw (od [1,3,5,7,9,11,15,12,16,19,20,23]) []),(15,.draw (od [1,3,5,7,9,11,13,15,17,19,21,23,24]) []),(17,.cut [(.normal,⟨[(0,.pc 0 0),(3,.pc 2 0),(5,ii),(53,.bool)],[c53,.gone,c6,.row 80]⟩)]),(18,.cut [(.normal,JV)]),(21,.draw (od [1,3,5,7,9,11,13,15,17,19,21,23,24]) [])]
def zlK:Sig:=⟨JP,[c25,.row 80]⟩
def zlL:List (XK×Sig):=[(.ret,JV)]
def zzu:Nat->U7 Hint:=hfind [(10,.cut [(.ret,JV),Jn]),(12,.draw (od [1,3,5,6,8]) []),(17,.cut [(.normal,⟨[(0,.pc 0 0),(3,.pc 2 0),(4,.pc 3 0),(11,ii),(21,.bool)],G5⟩)]),(26,.cut [Jn]),(27,.draw (od [1,5,9,2,6,10,13,14,17,18]) []),(30,.cut [Jn]),(34,.cut [Jn]),(35,.draw (od [1,3,5,7,8,11,12]) []),(38,.cut [Jn]),(39,.draw (od [1,3,5,7,8,11,12]) []),(42,.cut [Jn]),(43,.draw (od [1,7,13,2,5,8,10,14,17,18,21,22]) []),(46,.cut [Jn]),(50,.cut [(.normal,⟨[(0,.pc 0 0),(4,.pc 2 0)],[c25,.row 80,c5]⟩)]),(51,.draw (od [1,3,5,7,9,13,10,14,17,18,21,22,25,26]) [])]
def XJ:Sig:=⟨JP,[c25,.row 80]⟩
def XL:List (XK×Sig):=[(.ret,JV)]
def zzv:Nat->U7 Hint:=hfind [(5,.loop ⟨[(0,.pc 0 0),(7,.sl 93),(8,ii),(9,ii)],[c27,.gone,.row 80]⟩ [(.exit 0,JV)])]
def zgD(h:XJ.ty CC->U7 (zf CC XL)):Spec CC:=⟨58,0,XJ,XL,h⟩
def zgE(h:XJ.ty CC->U7 (zf CC XL))(x:zlI.ty CC):U7 (zf CC zlJ):=wh ⟨d⟩ [zch,VQ,zgD h] lpO prog f154 0 zlI zlJ zzt x
def zvY(h:XJ.ty CC->U7 (zf CC XL)):Spec CC:=⟨154,0,zlI,zlJ,zgE h⟩
theorem zvZ{h:XJ.ty CC->U7 (zf CC XL)}(hh:Spec.OK prog (zgD h)):Spec.OK prog (zvY h):=yF (zu (okP zch) (zu (okP VQ) (zu hh yG))) ZF ZE zzt (by kernel_rfl) (by kernel_rfl) (by kernel_rfl) λx=>rfl
def zgF(h:XJ.ty CC->U7 (zf CC XL))(x:zlK.ty CC):U7 (zf CC zlL):=wh ⟨d⟩ [zhV,zlH,zvY h,zch,zhX,VQ] lpO prog f108 0 zlK zlL zzu x
def zv0(h:XJ.ty CC->U7 (zf CC XL)):Spec CC:=⟨108,0,zlK,zlL,zgF h⟩
theorem zv1{h:XJ.ty CC->U7 (zf CC XL)}(hh:Spec.OK prog (zgD h)):Spec.OK prog (zv0 h):=yF (zu (okP zhV) (zu (okP zlH) (zu (zvZ hh) (zu (okP zch) (zu (okP zhX) (zu (okP VQ) yG)))))) ZF ZE zzu (by kernel_rfl) (by kernel_rfl) (by kernel_rfl) λx=>rfl
def zjh(h:XJ.ty CC->U7 (zf CC XL))(x:XJ.ty CC):U7 (zf CC XL):=wh ⟨d⟩ [zv0 h] lpO prog f58 0 XJ XL zzv x
def zBh(h:XJ.ty CC->U7 (zf CC XL)):Spec CC:=⟨58,0,XJ,XL,zjh h⟩
theorem zBi{h:XJ.ty CC->U7 (zf CC XL)}(hh:Spec.OK prog (zgD h)):Spec.OK prog (zBh h):=yF (zu (zv1 hh) yG) ZF ZE zzv (by kernel_rfl) (by kernel_rfl) (by kernel_rfl) λx=>rfl
def zci:Nat->XJ.ty CC->U7 (zf CC XL)
 |0=>λ_=>q
 |k+1=>zjh (zci k)
theorem zji:∀k,Spec.OK prog (zgD (zci k))
 |0=>⟨f58,by kernel_rfl,by kernel_rfl,by kernel_rfl,λx r h=>by cases h⟩
 |k+1=>zBi (zji k)
def zzy(x:XJ.ty CC):U7 (zf CC XL):=zci 100000 x
def zue:Spec CC:=⟨58,0,XJ,XL,zzy⟩
theorem zBW:Spec.OK prog zue:=zji 100000
instance:Ok zue:=⟨zBW⟩
def zph:=spA d [zue,VQ] 24 1 f24 Kf [(.ret,⟨[(0,.val 30)],[]⟩)] (hfind [(18,.loop JL [(.exit 0,⟨[(2,.pc 0 0),(3,.pc 1 0),(4,.pc 2 0)],[c39,c37,c42,.row 9,.row 80]⟩)]),(34,.cut [(.normal,JL)]),(38,.cut [(.normal,JL)])])
instance:Ok zph:=kA
def zuf:=spA d [Wm] 52 0 f52 ⟨[(0,.pc 0 0),(1,.val 93),(2,.bool),(3,ii)],J1⟩ [Jc,H5] (hfind [])
instance:Ok zuf:=kA
def zug:Sig:=⟨[(0,.pc 0 0),(1,.pc 1 0),(2,.pc 2 0),(3,.ifc 161 (.agg [ii,ii]))],Gg⟩
def zuh:List (XK×Sig):=[(.ret,⟨[],[c30,c11,c11,.forow 33]⟩)]
def zzz:Nat->U7 Hint:=hfind [(5,.draw (od [1,3,5,7,8,10,12]) [])]
def zui(x:zug.ty CC):U7 (zf CC zuh):=zb6 ⟨d⟩ [] lpO prog f51 0 zug zuh zzz x
def zzA:Spec CC:=⟨51,0,zug,zuh,zui⟩
theorem zBX:Spec.OKD prog zzA:=Vl yG ZF ZE zzz (by kernel_rfl) (by kernel_rfl) (by kernel_rfl) λx=>rfl
def zuj:Sig:=⟨KR,Gg⟩
def zuk:List (XK×Sig):=[(.ret,⟨[],Gg⟩)]
def zzB:Nat->U7 Hint:=hfind []
def zul(x:zuj.ty CC):U7 (zf CC zuk):=zb6 ⟨d⟩ [] lpO prog f51 0 zuj zuk zzB x
def zzC:Spec CC:=⟨51,0,zuj,zuk,zul⟩
theorem zBY:Spec.OKD prog zzC:=Vl yG ZF ZE zzB (by kernel_rfl) (by kernel_rfl) (by kernel_rfl) λx=>rfl
def zum:Sig:=⟨[(0,.val 93),(1,.sl 119),(2,.sl 116)],[]⟩
def zun:List (XK×Sig):=[(.ret,⟨Km,[.orow 33]⟩)]
def zzD:Nat->U7 Hint:=hfind [(3,.loop ⟨[(1,.sl 119),(2,.sl 116),(3,.pc 0 0),(6,.pc 1 0),(7,.pc 2 0),(8,.pc 3 0),(14,.clo 51 [.pc 1 0,.pc 2 0,.pc 3 0])],[c6,c30,c11,c11]⟩ []),(10,.loop J5 [Ji,(.exit 0,⟨[(3,.pc 0 0),(6,.pc 1 0),(7,.pc 2 0),(8,.pc 3 0),(9,.pc 4 0)],[c6,c30,c11,c11,c35,.orow 33]⟩)]),(18,.cut [Ji,(.normal,J5)]),(23,.draw (od [1,3,5,7,11,13,8718,8720,16,8,18,21,23,24,14,16,18,21,23,24]) [Ji,(.normal,J5)]),(29,.loop ⟨[(6,.pc 1 0),(7,.pc 2 0),(8,.pc 3 0),(9,.pc 4 0),(46,.sl 93),(47,ii),(48,ii)],H4⟩ [Ji,(.exit 2,⟨[(6,.pc 1 0),(7,.pc 2 0),(8,.pc 3 0),(9,.pc 4 0)],H4⟩)]),(37,.cut [Ji,(.normal,JU)]),(44,.draw (od [1,3,5,7,9,11,13,15,17,19,21,23,25,26,29,31,33,35,36]) [Ji,(.normal,JU)])]
def zzE(x:zum.ty CC):U7 (zf CC zun):=zhK ⟨d⟩ [zpb,zua,zud,zph,zuf] (zzC) (zzA) lpO prog f22 3 zum zun zzD x
def zuo:Spec CC:=⟨22,3,zum,zun,zzE⟩
theorem zBZ:Spec.OK prog zuo:=zhL Oks.o zBY zBX ZF ZE zzD (by kernel_rfl) (by kernel_rfl) (by kernel_rfl) λx=>rfl
instance:Ok zuo:=⟨zBZ⟩
def zdH:=spA d [] 55 0 f55 ⟨KI,[c4,.forow 69]⟩ [(.ret,G8)] (hfind [(2,.cut [(.normal,G8)])])
instance:Ok zdH:=kA
def zpi:=spA d [] 105 1 f105 ⟨Kr,[c51,.row 202]⟩ [(.ret,⟨[(0,ii)],[c51,.row 202]⟩)] (hfind [(6,.loop ⟨[(0,.pc 0 0),(1,.str),(5,ii)],[c51,.row 202]⟩ [(.ret,⟨[(4,ii)],[c51,.row 202]⟩),(.exit 0,⟨[],[c51,.row 202]⟩)])])
instance:Ok zpi:=kA
def zup:=spA d [zdH,zpi,zhT] 56 1 f56 ⟨[(0,.pc 0 0),(1,.val 97)],[c4,.forow 69]⟩ [(.ret,⟨[(0,.agg [.str,ii,.row 2])],[c4,.forow 69,.row 202]⟩)] (hfind [(20,.loop ⟨[(0,.pc 0 0),(3,.pc 2 0),(4,.pc 3 0),(5,ii),(6,.pc 4 0),(7,ii)],G7⟩ [(.exit 0,⟨HF,G7⟩)]),(38,.cut [(.normal,⟨[(0,.pc 0 0),(3,.pc 2 0),(4,.pc 3 0),(5,ii),(6,.pc 4 0),(7,ii),(8,.pc 5 0),(9,.pc 6 0)],[c4,.forow 69,c7,c26,c55,c7,c7,.row 202]⟩)]),(45,.cut [(.normal,⟨[(0,.pc 0 0),(3,.pc 2 0),(4,.pc 3 0),(5,ii),(6,.pc 4 0),(7,ii),(9,.pc 5 0),(11,.pc 6 0),(60,.bool)],Gn⟩)]),(46,.cut [(.normal,⟨[(0,.pc 0 0),(3,.pc 2 0),(4,.pc 3 0),(5,ii),(6,.pc 4 0),(7,ii),(9,.pc 5 0),(11,.pc 6 0)],Gn⟩)]),(52,.cut Kv),(56,.draw (od [1,3,5,7,9,11,13,15,17,18,21,22]) []),(59,.cut Kv),(68,.cut [(.normal,⟨[(4,.pc 2 0),(6,.pc 3 0)],[c4,.forow 69,c26,.cell [.str,ii,.row 4],.row 202]⟩)])])
instance:Ok zup:=kA
def zlM:=spA d [] 105 1 f105 HL KJ (hfind [(6,.loop ⟨[(0,.pr 0 69 0),(1,.str),(5,ii)],[.forow 69]⟩ [(.ret,⟨[(4,ii)],[.forow 69]⟩),HC])])
instance:Ok zlM:=kA
def zpj:=spA d [zlM] 184 2 f184 HL [(.ret,⟨[(0,.val 202),(1,ii)],[.forow 69]⟩)] (hfind [(13,.draw (od [1,3,5,7,9,11,13,15,17,19,21,23,25,27,29,31,33,34,37]) [])])
instance:Ok zpj:=kA
def zlN:=spA d [zpj] 151 1 f151 ⟨[(0,.pr 0 69 0),(1,.val 97),(2,.val 202)],[.forow 69]⟩ KJ (hfind [(5,.cut [KQ,(.normal,⟨[(0,.pr 0 69 0),(4,.pc 1 0),(5,.pc 2 0)],[.forow 69,c7,c12]⟩)]),(31,.cut [KQ,(.normal,⟨[(4,.pc 1 0),(5,.pc 2 0),(7,.pc 3 0)],[.forow 69,c7,c12,c12]⟩)]),(45,.cut [(.normal,⟨[(4,.pc 1 0),(5,.pc 2 0),(7,.pc 3 0),(9,.bool)],[.forow 69,c7,c12,c12]⟩)]),(48,.cut [(.normal,⟨[(60,.bool)],[.forow 69]⟩)])])
instance:Ok zlN:=kA
def zuq:=spA d [zlN] 150 1 f150 ⟨[(0,.pr 0 69 0),(1,.sl 97),(2,.sl 202)],[.forow 69]⟩ KJ (hfind [(14,.loop ⟨[(0,.pr 0 69 0),(1,.sl 97),(2,.sl 202),(7,ii)],[.forow 69]⟩ [KQ,HC]),(24,.draw (od [1,3,5,7,9,11,13,15,17,18,21]) [])])
instance:Ok zuq:=kA
def zpk:=spA d [zuq] 149 2 f149 ⟨Hg,[c4,.forow 69]⟩ [(.ret,HP)] (hfind [(6,.loop ⟨[(0,.pc 0 0),(1,.pr 1 69 0),(5,.pc 2 0),(6,.pc 3 0),(8,ii)],[c4,.forow 69,c7,c12]⟩ [(.ret,⟨[(6,.pc 2 0),(7,ii)],[c4,.forow 69,c12]⟩),(.exit 0,⟨[(6,.pc 2 0)],[c4,.forow 69,c12]⟩)]),(16,.draw (od [1,3,5,7,9,11,13,15,17,19,21]) []),(19,.draw (od [1,3,5,7,9,11,13,15,17,19,21,22,25]) [])])
instance:Ok zpk:=kA
def zur:=spA d [zpj,zpk] 148 2 f148 ⟨Hg,[c4,.forow 69]⟩ [(.ret,HP)] (hfind [(10,.cut J9),(23,.cut [(.normal,⟨[(6,.pc 2 0),(9,.pc 3 0),(10,ii),(46,.bool)],He⟩)]),(24,.cut [(.normal,⟨[(6,.pc 2 0),(9,.pc 3 0),(10,ii)],He⟩)]),(33,.cut [(.normal,⟨[(0,.pc 0 0),(1,.pr 1 69 0),(5,.pc 2 0),(6,.pc 3 0),(8,.pc 4 0),(21,ii),(49,.bool)],[c4,.forow 69,c7,c12,c12]⟩)]),(36,.cut J9),(59,.cut [(.normal,⟨[(6,.pc 2 0),(8,.pc 3 0),(11,.pc 4 0),(87,.bool)],[c4,.forow 69,c12,c12,c12]⟩)]),(71,.cut [(.normal,⟨[(0,.pc 0 0),(1,.pr 1 69 0),(5,.pc 2 0),(6,.pc 3 0),(8,.pc 4 0),(21,ii),(90,.bool)],[c4,.forow 69,c7,c12,c12]⟩)]),(74,.cut J9),(98,.cut [(.normal,⟨[(6,.pc 2 0),(15,.pc 3 0)],He⟩)]),(111,.cut [(.normal,⟨[(6,.pc 2 0),(17,.pc 3 0),(18,ii),(129,.bool)],He⟩)]),(112,.cut [(.normal,⟨[(6,.pc 2 0),(17,.pc 3 0),(18,ii)],He⟩)])])
instance:Ok zur:=kA
def zus:=spA d [zlN] 150 1 f150 ⟨[(0,.pr 0 69 0),(1,.sl 97),(2,.nxp 0 69 202)],[.forow 69]⟩ KJ (hfind [(14,.loop ⟨[(0,.pr 0 69 0),(1,.sl 97),(2,.nxp 0 69 202),(7,ii)],[.forow 69]⟩ [KQ,HC]),(24,.draw (od [1,3,5,7,9,11,13,15,17,18,21]) [])])
instance:Ok zus:=kA
def zlO:=spA d [zur,zlM,zpk,zus,zlN] 107 1 f107 ⟨Hg,[c4,.orow 69]⟩ [(.ret,⟨[(0,ii)],[c4,.orow 69]⟩)] (hfind [(10,.cut J0),(30,.draw (od [1,3,5,7,9,11,12,14,17,19,20]) []),(37,.draw (od [1,3,5,7,9,11,13,15,17]) []),(48,.cut J0),(56,.cut J0),(61,.loop ⟨[(0,.pc 0 0),(1,.pr 1 69 0),(5,.pc 2 0),(13,ii)],GI⟩ [(.ret,⟨[(6,ii)],[c4,.orow 69]⟩),(.exit 1,Hq)]),(71,.draw (od [1,3,5,7,9,11,13,15,17,19,21]) []),(74,.draw (od [1,3,5,7,9,11,13,15,17,19,21,23,25,27,29,31,33,35,37,39,40,43]) []),(84,.cut [(.normal,⟨[(1,.pr 1 69 0),(5,.pc 2 0),(7,.pc 3 0),(17,ii),(117,.bool)],[c4,.orow 69,c7,c12]⟩)]),(87,.cut J0),(89,.draw (od [1,3,5,7,9,11,12,15]) []),(99,.draw (od [1,3,5,7,9,11,12,15]) []),(103,.cut J0)])
instance:Ok zlO:=kA
def VS:Sig:=⟨[(0,.pc 0 0),(1,.pr 1 69 0),(2,.sl 97)],[c4,.forow 69]⟩
def VT:List (XK×Sig):=[(.ret,Hq)]
def zzF:Nat->U7 Hint:=hfind [(3,.loop Ko [(.ret,Hq),(.exit 0,Hq)]),(6,.cut [(.normal,⟨[(0,.pc 0 0),(1,.pr 1 69 0),(2,.sl 97),(6,ii),(20,.bool)],[c4,.orow 69]⟩)]),(25,.cut [(.normal,⟨[(0,.pc 0 0),(1,.pr 1 69 0),(2,.sl 97),(6,ii),(7,.pc 2 0),(45,.bool)],GI⟩)]),(26,.cut [(.normal,Ko)]),(30,.loop ⟨[(0,.pc 0 0),(1,.pr 1 69 0),(2,.sl 97),(6,ii),(7,.pc 2 0),(9,ii)],GI⟩ [(.exit 2,Ko)])]
def zpl(h:VS.ty CC->U7 (zf CC VT)):Spec CC:=⟨57,0,VS,VT,h⟩
def zjj(h:VS.ty CC->U7 (zf CC VT))(x:VS.ty CC):U7 (zf CC VT):=wh ⟨d⟩ [zlO,zdH,zpl h] lpO prog f57 0 VS VT zzF x
def zBj(h:VS.ty CC->U7 (zf CC VT)):Spec CC:=⟨57,0,VS,VT,zjj h⟩
theorem zBk{h:VS.ty CC->U7 (zf CC VT)}(hh:Spec.OK prog (zpl h)):Spec.OK prog (zBj h):=yF (zu (okP zlO) (zu (okP zdH) (zu hh yG))) ZF ZE zzF (by kernel_rfl) (by kernel_rfl) (by kernel_rfl) λx=>rfl
def zgG:Nat->VS.ty CC->U7 (zf CC VT)
 |0=>λ_=>q
 |k+1=>zjj (zgG k)
theorem zv2:∀k,Spec.OK prog (zpl (zgG k))
 |0=>⟨f57,by kernel_rfl,by kernel_rfl,by kernel_rfl,λx r h=>by cases h⟩
 |k+1=>zBk (zv2 k)
def zzG(x:VS.ty CC):U7 (zf CC VT):=zgG 100000 x
def zut:Spec CC:=⟨57,0,VS,VT,zzG⟩
theorem zB0:Spec.OK prog zut:=zv2 100000
instance:Ok zut:=⟨zB0⟩
def zcj:=spA d [] 110 1 f110 KE [(.ret,⟨[(0,.val 180)],[]⟩)] (hfind [])
instance:Ok zcj:=kA
def zpm:=spA d [zcj] 158 1 f158 ⟨[(0,.sl 97)],[]⟩ [(.ret,⟨[(0,.row 0)],[.row 180]⟩)] (hfind [(8,.loop ⟨[(0,.sl 97),(3,.row 0),(4,ii)],[.row 180]⟩ [(.exit 0,⟨[(3,.row 0)],[.row 180]⟩)])])
instance:Ok zpm:=kA
def zuu:=spA d [zcj,zpm] 157 1 f157 KE [(.ret,KV)] (hfind [(13,.cut [(.normal,⟨[(2,.pc 0 0),(3,.pc 1 0),(4,.pc 2 0),(20,ii),(21,.bool)],[c5,c7,c5]⟩)]),(16,.cut Js),(20,.cut Js),(28,.cut Js),(36,.cut Js),(42,.cut Js),(48,.cut Js),(56,.cut Js)])
instance:Ok zuu:=kA
def zlP:=spA d [zuu,zcj,zpm] 109 1 f109 KE [(.ret,KV)] (hfind [(16,.cut Jx),(24,.cut Jx),(28,.cut Jx),(34,.cut Jx),(40,.cut Jx),(48,.cut Jx),(54,.cut KL),(61,.cut KL),(68,.cut KL)])
instance:Ok zlP:=kA
def VU:Sig:=Gs
def VV:List (XK×Sig):=[(.ret,⟨[(0,.row 0)],[.row 183]⟩)]
def zzH:Nat->U7 Hint:=hfind [(8,.loop ⟨Kh,[c7,.row 183]⟩ [(.exit 0,⟨[(5,.row 0)],[.row 183]⟩)]),(16,.cut [(.normal,⟨Kh,[c7,.row 183]⟩)]),(23,.cut [(.normal,⟨[(1,ii),(2,.pc 0 0),(5,.row 1),(6,ii),(7,.pc 2 0),(8,ii),(40,.bool)],[c7,.row 183,c7]⟩)]),(45,.loop ⟨[(1,ii),(2,.pc 0 0),(5,.row 1),(6,ii),(7,.pc 2 0),(8,ii),(12,.row 3),(13,ii),(14,ii)],[c7,.row 183,c7,.row 183]⟩ [(.exit 2,⟨[(1,ii),(2,.pc 0 0),(5,.row 1),(6,ii),(7,.pc 2 0),(8,ii),(13,ii)],[c7,.row 183,c7]⟩)]),(71,.loop ⟨[(1,ii),(2,.pc 0 0),(5,.row 1),(6,ii),(15,.row 2),(16,ii)],[c7,.row 183,.row 183]⟩ [(.exit 4,⟨Kh,[c7,.row 183]⟩)])]
def zpn(h:VU.ty CC->U7 (zf CC VV)):Spec CC:=⟨60,1,VU,VV,h⟩
def zjk(h:VU.ty CC->U7 (zf CC VV))(x:VU.ty CC):U7 (zf CC VV):=wh ⟨d⟩ [zlP,zcj,zpn h] lpO prog f60 1 VU VV zzH x
def zBl(h:VU.ty CC->U7 (zf CC VV)):Spec CC:=⟨60,1,VU,VV,zjk h⟩
theorem zBm{h:VU.ty CC->U7 (zf CC VV)}(hh:Spec.OK prog (zpn h)):Spec.OK prog (zBl h):=yF (zu (okP zlP) (zu (okP zcj) (zu hh yG))) ZF ZE zzH (by kernel_rfl) (by kernel_rfl) (by kernel_rfl) λx=>rfl
def zgH:Nat->VU.ty CC->U7 (zf CC VV)
 |0=>λ_=>q
 |k+1=>zjk (zgH k)
theorem zv3:∀k,Spec.OK prog (zpn (zgH k))
 |0=>⟨f60,by kernel_rfl,by kernel_rfl,by kernel_rfl,λx r h=>by cases h⟩
 |k+1=>zBm (zv3 k)
def zzI(x:VU.ty CC):U7 (zf CC VV):=zgH 100000 x
def zuv:Spec CC:=⟨60,1,VU,VV,zzI⟩
theorem zB1:Spec.OK prog zuv:=zv3 100000
instance:Ok zuv:=⟨zB1⟩
def zpo:=spA d [zuv] 25 1 f25 KE [(.ret,⟨[(0,.agg [.str,.row 0,.row 1])],[.row 9,.row 183]⟩)] (hfind [(10,.loop ⟨[(1,.pc 0 0),(2,.pc 1 0),(3,.pc 2 0),(4,ii),(5,ii)],[c7,c39,c37,.row 9]⟩ [(.exit 0,⟨[(1,.pc 0 0),(2,.pc 1 0),(3,.pc 2 0),(4,ii)],[c7,c39,c37,.row 9]⟩)]),(19,.draw (od [1,3,5,7,9,11,13,15,16,18,21,22]) []),(24,.draw (od [1,3,5,7,9,11,13,15,17,18,20,23,24]) [])])
instance:Ok zpo:=kA
def zuw:=spA d [zdH,zup,zut,zpo] 23 1 f23 ⟨[(0,.val 97),(1,.sl 204),(2,.sl 198)],[]⟩ [(.ret,⟨[(0,.pc 0 0)],[c4,.orow 69]⟩)] (hfind [(8,.loop ⟨[(3,.pc 0 0),(7,.pc 1 0),(8,ii)],Hp⟩ [(.exit 0,⟨[(3,.pc 0 0),(7,.pc 1 0)],Hp⟩)]),(11,.cut [(.normal,⟨[(3,.pc 0 0),(7,.pc 1 0),(8,ii),(29,.bool)],Hp⟩)]),(27,.draw (od [1,3,5,7,9,11,12,14,17,19,20]) []),(33,.loop HO [(.exit 2,Gf)]),(36,.cut [(.normal,⟨[(3,.pc 0 0),(7,.pc 1 0),(10,ii),(75,.bool)],Hp⟩)]),(47,.draw (od [1,3,5,7,9,11,13,15,17,19,21,23,25,26]) []),(51,.cut [(.normal,⟨[(3,.pc 0 0),(7,.pc 1 0),(10,ii),(11,.pc 2 0),(118,.bool)],[c7,.cell [.sl 204,.sl 198,.row 3,ii,ii],c7,.orow 69]⟩)]),(52,.cut [(.normal,HO)]),(59,.cut [(.normal,Gf)])])
instance:Ok zuw:=kA
def zux:=spA d [zt8,P50,zo7,zuo,zuw,zph,zpo] 11 3 f11 K8 [(.ret,⟨[(0,.val 55),(1,.val 60),(2,.bool)],[]⟩)] (hfind [(8,.cut [(.normal,⟨[(1,.str),(4,.pc 0 0),(5,.pc 1 0),(7,.pc 2 0),(9,.pc 3 0),(38,.bool)],[c24,c48,c56,c6]⟩)]),(26,.loop J3 [(.exit 0,⟨[(4,.pc 0 0),(5,.pc 1 0),(7,.pc 2 0),(15,.row 3),(17,ii),(18,.pc 4 0),(19,.pc 5 0)],[c24,c48,c56,.orow 33,.cell [.sl 204,.sl 198,.row 6,ii,ii],.cell [.row 3,.row 7,.row 6,.row 8],.orow 69,.row 30,.row 66]⟩)]),(39,.cut [(.normal,J3)]),(41,.draw (od [1,3,5,6,8,10,13,14]) []),(42,.draw (od [1,3,5,7,9,11,13,14,16,18,21,22]) []),(46,.draw (od [1,3,5,7,9,11,13,15,17,19,21,23,25,27,29,31,33,35,37,39,41,43,45,47,49,51,53,55,57,58,60,63]) [(.normal,⟨[(4,.pc 0 0),(5,.pc 1 0),(6,.bool)],[c56,.cell [.row 2,.row 3,.row 4,.row 5],.orow 33,.row 30,.orow 69,.row 66]⟩)])])
instance:Ok zux:=kA
def zpp:=spA d [zux] 4 3 f4 K8 [(.ret,⟨[(0,.row 0),(1,.row 1),(2,.bool)],[.row 39,.row 63]⟩)] (hfind [(20,.loop ⟨[(7,.pc 0 0),(8,.pc 1 0),(10,.row 2),(11,.row 3),(24,ii),(25,ii)],[c56,.cell [.val 60],.row 39,.row 63]⟩ [(.exit 0,⟨[(10,.row 0),(11,.row 1)],[.row 39,.row 63]⟩)]),(32,.draw (od [1,3,5,7,9,11,13,15,17,19,21,23,25,27,29,31,33,35,36,38,40]) []),(33,.draw (od [1,3,5,7,9,11,13,15,17,19,21,23,25,27,29,31,33,35,36,38,40,42]) [])])
instance:Ok zpp:=kA
def zpq:=spA d [] 232 0 f232 ⟨[(0,.pc 0 0),(1,.ifc 3 (ii))],Jf⟩ Gy (hfind [(0,.draw (od [1,3,5,7,9,11,13,14,16,19,21,22]) [])])
instance:Ok zpq:=kA
def zhY:=spA d [] 112 1 f112 GC [(.ret,⟨[(0,ii)],Jf⟩)] (hfind [])
instance:Ok zhY:=kA
def zlQ:=spA d [] 230 1 f230 ⟨KI,Jf⟩ [(.ret,GG)] (hfind [(3,.draw (od [1,3,5,7,9,11,13,15,17,19,21,23,25,27,29,31,33,35,37,39,41,43,45,47,49,51]) [])])
instance:Ok zlQ:=kA
def zhZ:=spA d [] 233 0 f233 ⟨KI,Jf⟩ [(.ret,⟨[],Jf⟩)] (hfind [(0,.draw (od [1,3,5,7,9,11,13,15,17,19,21,23,25,27,29,31,33,35,37,39,41,43,45,47,49,50,53,54]) [])])
instance:Ok zhZ:=kA
def zuy:=spA d [zlQ,zhZ] 186 0 f186 HX [(.ret,⟨[],Jf⟩)] (hfind [(1,.loop HX [(.exit 0,⟨[],Jf⟩)]),(7,.cut [(.normal,⟨[(0,.ifc 229 (.pc 0 0)),(1,ii),(4,ii),(17,.bool)],Jf⟩)])])
instance:Ok zuy:=kA
def zuz:=spA d [zpq,zhY,zuy] 159 0 f159 ⟨[(0,.ifc 229 (.pc 0 0)),(1,.ifc 3 (ii))],Jf⟩ Gy (hfind [])
instance:Ok zuz:=kA
def zpr:=spA d [zuz] 111 0 f111 ⟨Ka,Jf⟩ Gy (hfind [(2,.cut [(.normal,⟨[],Ku⟩)])])
instance:Ok zpr:=kA
def zuA:=spA d [zlQ,zhZ] 160 1 f160 ⟨[(0,.ifc 229 (.pc 0 0)),(1,ii),(2,ii)],Jf⟩ [(.ret,GG)] (hfind [(6,.loop H3 [(.exit 0,G6)]),(7,.cut [(.exit 0,G6),(.normal,H3)]),(12,.cut [(.normal,⟨[(0,.ifc 229 (.pc 0 0)),(1,ii),(2,ii),(7,ii),(8,ii),(21,.bool)],Jf⟩)]),(22,.cut [(.normal,⟨[(0,.ifc 229 (.pc 0 0)),(1,ii),(2,ii),(7,ii),(9,ii),(10,ii),(33,.bool)],Jf⟩)]),(23,.cut [(.normal,⟨[(0,.ifc 229 (.pc 0 0)),(1,ii),(2,ii),(7,ii),(9,ii)],Jf⟩)])])
instance:Ok zuA:=kA
def zps:=spA d [] 231 1 f231 GC [(.ret,G0)] (hfind [])
instance:Ok zps:=kA
def zuB:=spA d [zhY,zhZ,zuA,zps] 113 1 f113 ⟨[(0,.ifc 229 (.pc 0 0))],Jf⟩ [(.ret,G0)] (hfind [])
instance:Ok zuB:=kA
def zlR:=spA d [] 64 1 f64 ⟨[(0,.sl 4)],[]⟩ [(.ret,Gw)] (hfind [])
instance:Ok zlR:=kA
def zdI:=spA d [] 13 2 f13 JR [(.ret,⟨[(0,.val 80),(1,.bool)],[]⟩)] (hfind [(4,.cut [(.normal,⟨[(1,ii),(2,.pc 0 0),(4,.pc 1 0),(15,.bool)],[c18,c5]⟩)])])
instance:Ok zdI:=kA
def zpt:=spA d [zdI,zcg] 16 4 f16 JR [(.ret,⟨[(0,.val 47),(1,.val 47),(2,ii),(3,.bool)],[]⟩)] (hfind [(6,.cut [(.normal,⟨[(2,.pc 0 0),(4,.pc 1 0),(5,.pc 2 0),(8,.pc 3 0),(34,.bool)],[c18,c8,c8,c22]⟩)]),(9,.draw (od [1,3,4,6,9,11]) []),(15,.draw (od [1,3,5,7,9,11,13,21,23,25,27,29,31,33,14,17,19,34,36,38,41]) [])])
instance:Ok zpt:=kA
def zpu:=spA d [] 17 1 f17 ⟨[(0,.val 39),(1,.val 47)],[]⟩ Jm (hfind [(3,.cut Jb)])
instance:Ok zpu:=kA
def zpv:=spA d [] 30 1 f30 ⟨[(0,.val 119),(1,.pc 0 0)],[c22]⟩ [(.ret,G9)] (hfind [])
instance:Ok zpv:=kA
def zuC:=spA d [zpv] 29 1 f29 ⟨[(0,.sl 119),(1,.clo 30 [.pc 0 0])],[c22]⟩ [(.ret,GF)] (hfind [(6,.loop ⟨[(0,.sl 119),(1,.clo 30 [.pc 0 0]),(7,ii),(8,ii)],[c22]⟩ HK)])
instance:Ok zuC:=kA
def zpw:=spA d [] 32 1 f32 ⟨[(0,.val 33),(1,.pc 0 0)],[c22]⟩ [(.ret,G9)] (hfind [])
instance:Ok zpw:=kA
def zuD:=spA d [zpw] 31 1 f31 ⟨[(0,.sl 33),(1,.clo 32 [.pc 0 0])],[c22]⟩ [(.ret,GF)] (hfind [(6,.loop ⟨[(0,.sl 33),(1,.clo 32 [.pc 0 0]),(7,ii),(8,ii)],[c22]⟩ HK)])
instance:Ok zuD:=kA
def zuE:=spA d [zuC,zuD] 18 1 f18 ⟨[(0,.val 39),(1,.val 80)],[]⟩ [(.ret,⟨[(0,.sl 47)],[]⟩)] (hfind [(8,.cut HQ),(20,.cut HQ),(27,.draw (od [1,3,5,7,9,11,13,15,17,19,21,23,25,27]) [])])
instance:Ok zuE:=kA
def zh0:=spA d [zpt,zpu,zdI,zuE,zcg] 7 1 f7 JR Ht (hfind [(7,.cut [Hx,(.normal,⟨[(1,ii),(2,.pc 0 0)],[c18]⟩)]),(10,.cut [(.normal,⟨[(7,ii),(37,.bool)],[]⟩)]),(28,.loop KM [(.exit 0,⟨[(11,.row 0)],[.row 3]⟩)]),(41,.cut [(.normal,KM)]),(42,.draw (od [1,3,5,7,9,11,13,15,17,18,20,22,24]) [])])
instance:Ok zh0:=kA
def zlS:=spA d [zdI,zcg] 10 1 f10 JR Jw (hfind [(6,.cut [(.normal,⟨[(2,.pc 0 0),(5,.pc 1 0),(28,.bool)],[c18,c22]⟩)])])
instance:Ok zlS:=kA
def zuF:=spA d [zlR,zh0,zlS] 63 1 f63 ⟨[(0,.val 39),(1,ii),(2,.sl 4)],[]⟩ [(.ret,Gw)] (hfind [(8,.loop ⟨[(1,ii),(3,.pc 0 0),(7,.row 1),(15,.row 2),(16,ii),(17,ii)],[c18,.row 4,.row 3]⟩ [(.exit 0,⟨[(1,ii),(3,.pc 0 0),(7,.row 1)],[c18,.row 4]⟩)]),(26,.cut [(.normal,⟨[(7,.row 0)],[.row 4]⟩)])])
instance:Ok zuF:=kA
def zpx:=spA d [zdI] 8 1 f8 JR Ht (hfind [(7,.cut [(.normal,⟨[(1,ii),(5,.pc 0 0),(13,.bool)],[c22]⟩)]),(8,.cut [Hx,(.normal,⟨[(1,ii)],[]⟩)]),(14,.cut [Hx,(.normal,⟨[(1,ii)],[]⟩)]),(19,.cut [(.normal,⟨[(1,ii),(5,.pc 0 0),(33,.bool)],[c22]⟩)])])
instance:Ok zpx:=kA
def zuG:=spA d [zuF,zpx,zlR,zpr] 62 0 f62 ⟨[(0,ii),(1,.clo 111 [.tup [.pc 0 0]]),(2,.pc 1 0),(3,.pc 2 0)],[.cell [.row 3,.row 4,ii],c18,c49,.row 3,.obj 0 230,.orow 110]⟩ [(.ret,KT)] (hfind [(1,.draw (od [1,3,5,7,9,11,12,15]) []),(5,.loop Jv [(.exit 0,KT)]),(13,.cut [(.normal,Jv)]),(21,.draw (od [1,3,5,6,9,10]) []),(29,.loop JO [(.exit 2,Jv)]),(41,.cut [(.normal,⟨[(1,.clo 111 [.tup [.pc 0 0]]),(3,.pc 2 0),(6,.row 6),(8,ii),(9,ii),(19,.row 7),(20,ii),(21,ii),(39,ii),(40,ii),(56,.bool)],[c41,c18,c49,.gone,.obj 0 230,.orow 110,.row 4,.row 3,.row 3]⟩)]),(42,.cut [(.normal,JO)])])
instance:Ok zuG:=kA
def zuH:=spA d [zpr,zhY,zuB,zuG] 61 0 f61 ⟨[(0,.bool),(1,.sl 3),(2,.clo 62 [.pc 0 0,.pc 1 0])],[c18,c27,.forow 110]⟩ [(.ret,⟨[],HV⟩)] (hfind [(5,.cut [(.normal,⟨[(1,.sl 3),(2,.clo 62 [.pc 0 0,.pc 1 0]),(6,.pc 3 0)],[c18,c27,.forow 110,.cell [.nils,.row 4,ii],.obj 0 230]⟩)]),(12,.loop ⟨[(2,.clo 62 [.pc 0 0,.pc 1 0]),(6,.pc 3 0),(18,.sl 3),(19,ii),(20,ii)],Gk⟩ [(.exit 0,⟨[(2,.clo 62 [.pc 0 0,.pc 1 0]),(6,.pc 3 0)],Gk⟩)]),(28,.loop ⟨[(2,.clo 62 [.pc 0 0,.pc 1 0]),(6,.pc 3 0),(9,.clo 111 [.tup [.pc 3 0]])],[c18,c27,.orow 110,c57,.row 3,.obj 0 230]⟩ [(.exit 2,⟨[],HV⟩)])])
instance:Ok zuH:=kA
def zuI:=spA d [zuH] 26 1 f26 GB [(.ret,⟨[(0,.row 0)],[.orow 110]⟩)] (hfind [(13,.draw (od [1,3,5,7,9,10,13,14]) []),(18,.loop ⟨[(1,.pc 0 0),(3,.pc 1 0),(22,ii),(23,ii)],HV⟩ [(.exit 0,⟨[(1,.pc 0 0),(3,.pc 1 0)],HV⟩)])])
instance:Ok zuI:=kA
def zpy:=spA d [] 14 1 f14 ⟨[(0,.val 80)],[]⟩ [(.ret,⟨[(0,.row 0)],[.row 9]⟩)] (hfind [(11,.cut JT),(15,.cut JT),(19,.cut JT),(23,.cut JT),(26,.cut [(.normal,⟨[(1,.pc 0 0),(3,.row 1)],[c22,.row 9]⟩)]),(33,.loop Hm [(.exit 1,⟨[(3,.row 0)],[.row 9]⟩)]),(46,.cut [(.normal,Hm)])])
instance:Ok zpy:=kA
def zpz:=spA d [zdI,zpy,zcg] 6 1 f6 JR Ht (hfind [(9,.cut [(.normal,Gu)]),(13,.loop ⟨[(2,.pc 0 0),(5,.row 1),(18,.row 2),(19,ii),(20,ii)],[c18,.row 3,.row 9]⟩ [(.exit 0,Gu)])])
instance:Ok zpz:=kA
def zuJ:=spA d [zuI,zpz,zh0] 12 2 f12 GB [(.ret,⟨[(0,ii),(1,ii)],[]⟩)] (hfind [(6,.loop Kt [KW,(.exit 0,⟨[],[]⟩)]),(14,.cut [(.normal,Kt),KW]),(29,.loop ⟨[(1,.pc 0 0),(4,ii),(5,.nx 1 110),(6,.row 2),(12,.row 1),(13,ii),(14,ii),(24,.row 3),(25,ii),(26,ii)],[c18,.orow 110,.obj 0 40,.row 3]⟩ [KW,(.exit 2,⟨[(1,.pc 0 0),(4,ii),(6,.row 1),(12,.row 2),(13,ii),(14,ii)],[c18,.obj 0 40,.orow 110]⟩)]),(53,.loop ⟨[(1,.pc 0 0),(4,ii),(6,.row 1),(12,.row 2),(13,ii),(14,ii),(49,.row 3),(50,ii),(51,ii)],[c18,.obj 0 40,.orow 110,.row 3]⟩ [KW,(.exit 4,Kt)])])
instance:Ok zuJ:=kA
def zuK:=spA d [zpp,zuJ,zh0,zlS] 5 1 f5 ⟨[],[]⟩ Jm (hfind [(15,.cut [(.normal,⟨[(0,.bool)],[]⟩)])])
instance:Ok zuK:=kA
def zuL:=spA d [zpt] 9 2 f9 JR [(.ret,⟨[(0,ii),(1,.bool)],[]⟩)] (hfind [(6,.cut [(.normal,⟨[(6,.pc 0 0),(8,ii),(34,.bool)],[c8]⟩)]),(13,.draw (od [1,3,5,7,9,11]) [])])
instance:Ok zuL:=kA
def zfI:=spA d [zpp,zuK,zpz,zh0,zpx,zuL,zlS] 3 1 f3 K8 Jm (hfind [(6,.cut [(.normal,⟨[(5,.row 0),(32,.bool)],[.row 39]⟩)]),(16,.loop HG [Ky,(.exit 0,⟨[],[]⟩)]),(30,.loop KU [Ky,(.exit 2,HG)]),(38,.cut [Ky,(.normal,KU)]),(47,.loop ⟨[(9,.pc 0 0),(10,ii),(11,.row 1),(34,.row 2),(35,ii),(36,ii),(43,ii),(44,ii),(50,.row 3),(51,ii),(52,ii)],KC⟩ [Ky,(.exit 4,JE)]),(61,.cut [(.normal,⟨[(9,.pc 0 0),(10,ii),(11,.row 1),(34,.row 2),(35,ii),(36,ii),(43,ii),(44,ii),(50,.row 3),(51,ii),(52,ii),(69,.bool)],KC⟩)]),(72,.loop ⟨[(9,.pc 0 0),(10,ii),(11,.row 1),(34,.row 2),(35,ii),(36,ii),(43,ii),(44,ii),(73,.row 3),(74,ii),(75,ii)],KC⟩ [Ky,(.exit 6,JE)]),(95,.loop ⟨[(9,.pc 0 0),(10,ii),(11,.row 1),(34,.row 2),(35,ii),(36,ii),(43,ii),(44,ii),(86,.row 3),(87,ii),(88,ii)],KC⟩ [Ky,(.exit 8,JE)]),(107,.cut [(.normal,⟨[(9,.pc 0 0),(10,ii),(11,.row 1),(34,.row 2),(35,ii),(36,ii),(43,ii),(44,ii),(86,.row 3),(87,ii),(88,ii),(101,.bool)],KC⟩)]),(118,.cut [(.normal,⟨[(9,.pc 0 0),(10,ii),(34,.row 1),(35,ii),(36,ii),(43,ii),(44,ii),(133,.bool)],[c18,.row 39]⟩)]),(125,.draw (od [1,3,7,9,11,13,4,15]) [])])
instance:Ok zfI:=kA
theorem zB2:zfI.OK prog:=Ok.o
end
end Go.Px
