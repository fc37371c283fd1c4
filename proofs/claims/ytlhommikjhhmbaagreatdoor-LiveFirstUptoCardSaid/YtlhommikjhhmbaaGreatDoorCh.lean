/- Part Ch. -/
import Derived.Test.YtlhommikjhhmbaaGreatDoorSf
set_option linter.unusedVariables false
set_option linter.unusedSimpArgs false
namespace Go.Px
open Bool renaming false->d,true->j
open Nat renaming beq->m
open _root_.Option renaming some->i,none->q
open Go.Proofs Go.Proofs.Tryz
set_option maxRecDepth 100000
noncomputable section
theorem ZG:Tryz.prog.follows .mixedOrders=true:=jO
def GLk:World->FS->Prop:=λ_ Z=>(∃t p,Z 0 0=i (.iface t p))/\∃t p,Z 1 0=i (.iface t p)
theorem glm{Z τ:FS}{w w':World}{h:zc}(l:Z.le τ)(_:Ext w h w')(g:GLk w Z):GLk w' τ:=by
 obtain⟨⟨t,p,a⟩,c,p',b⟩:=g
 exact⟨⟨t,p,l _ _ _ a⟩,c,p',l _ _ _ b⟩
structure qr where
 k_:Int
 T_:U0
 n_:Int
 a_:Int
structure q7 where
 Z_:(Sl qr)
 D_:Int
structure q8 where
 k_:Int
 T_:U0
 n_:Int
 a_:Int
 K_:(Sl q8)
structure qt where
 N_:U0
 z_:Int
structure qw where
 X_:Int
 Y_:Int
 C_:Int
structure qa where
 N_:U0
 S_:Int
 o_:Int
 E_:(Sl qt)
 U_:(Sl qw)
structure qh where
 N_:U0
 M_:Int
 t_:Int
structure qf where
 N_:U0
 P_:(Sl qh)
 R_:qh
structure q9 where
 k_:Int
 T_:U0
 n_:Int
 a_:Int
structure q6 where
 k_:Int
 T_:U0
 n_:Int
 a_:Int
 K_:(Sl q6)
structure qn where
 N_:U0
 z_:Int
structure qu where
 X_:Int
 Y_:Int
 C_:Int
structure qd where
 N_:U0
 S_:Int
 o_:Int
 E_:(Sl qn)
 U_:(Sl qu)
structure qi where
 N_:U0
 M_:Int
 t_:Int
structure qj where
 N_:U0
 P_:(Sl qi)
 R_:qi
structure q13 where
 J_:(Sl q8)
 I_:(Sl qa)
 s_:(Sl qf)
 r_:(Sl q6)
 j_:(Sl qd)
 q_:(Sl qj)
structure qe where
 N_:U0
 P_:Int
 V_:(Sl qh)
structure qz where
 N_:U0
 n_:Int
structure qm where
 O_:Int
 a_:Int
 X_:U0
 Y_:U0
 A_:qz
 B_:qz
 Q_:(Sl qz)
 H_:Int
 h_:Bool
structure q1m where
 N_:U0
 P_:(Sl U0)
 L_:(Sl qm)
structure qg where
 N_:U0
 P_:Int
 V_:(Sl qi)
structure qp where
 N_:U0
 n_:Int
structure qq where
 O_:Int
 a_:Int
 X_:U0
 Y_:U0
 A_:qp
 B_:qp
 Q_:(Sl qp)
 H_:Int
 h_:Bool
structure q1n where
 N_:U0
 P_:(Sl U0)
 L_:(Sl qq)
structure q1w where
 J_:(Sl qe)
 w_:(Sl q1m)
 r_:(Sl qg)
 g_:(Sl q1n)
structure ql where
 c_:q1m
 F_:qe
 G_:(Sl qf)
 f_:(Sl qe)
 W_:(Sl qa)
structure q18 where
 c_:q1n
 F_:qg
 G_:(Sl qj)
 f_:(Sl qg)
 W_:(Sl qd)
abbrev DT:List (Nat×Type):=[(142,qr),(139,q7),(89,q8),(251,qt),(306,qw),(189,qa),(9,U0),(112,qh),(192,qf),(155,q9),(93,q6),(261,qn),(264,qu),(211,qd),(3,Int),(215,qi),(217,qj),(53,q13),(33,qe),(76,qz),(79,qm),(30,q1m),(67,qg),(180,qp),(183,qq),(64,q1n),(58,q1w),(39,ql),(69,q18),(61,q18),(4,Bool),(46,(Sl Bool)),(72,(Sl Int)),(71,(Int×Int)),(118,(Int×Bool))]
abbrev DD:Nat->Type:=zva DT
def zyd:(T:Nat)->U3 (MapT DD T):=λT=>if h:T=71 then i ⟨.i,.i,h ▸ rfl⟩ else if h:T=118 then i ⟨.i,.b,h ▸ rfl⟩ else q
def ET:List ((T:Nat)×TyE DD T):=[⟨142,j,[.int .i64,.str,.int .i64,.int .i64],λ(x:qr)=>(x.k_,x.T_,x.n_,x.a_,()),λ(a0,a,a2,a3,_)=>i (show qr from⟨a0,a,a2,a3⟩),λx y h=>by cases h;rfl⟩,
 ⟨139,j,[.sl 142,.int .i64],λ(x:q7)=>(x.Z_,x.D_,()),λ(a0,a,_)=>i (show q7 from⟨a0,a⟩),λx y h=>by cases h;rfl⟩,
 ⟨89,j,[.int .i64,.str,.int .i64,.int .i64,.sl 89],λ(x:q8)=>(x.k_,x.T_,x.n_,x.a_,x.K_,()),λ(a0,a,a2,a3,a4,_)=>i (show q8 from⟨a0,a,a2,a3,a4⟩),λx y h=>by cases h;rfl⟩,
 ⟨251,j,[.str,.int .i64],λ(x:qt)=>(x.N_,x.z_,()),λ(a0,a,_)=>i (show qt from⟨a0,a⟩),λx y h=>by cases h;rfl⟩,
 ⟨306,j,[.int .i64,.int .i64,.int .i64],λ(x:qw)=>(x.X_,x.Y_,x.C_,()),λ(a0,a,a2,_)=>i (show qw from⟨a0,a,a2⟩),λx y h=>by cases h;rfl⟩,
 ⟨189,j,[.str,.int .i64,.int .i64,.sl 251,.sl 306],λ(x:qa)=>(x.N_,x.S_,x.o_,x.E_,x.U_,()),λ(a0,a,a2,a3,a4,_)=>i (show qa from⟨a0,a,a2,a3,a4⟩),λx y h=>by cases h;rfl⟩,
 ⟨9,d,[.str],λ(x:U0)=>(x,()),λ(a0,_)=>i (show U0 from a0),λx y h=>by cases h;rfl⟩,
 ⟨112,j,[.str,.int .i64,.int .i64],λ(x:qh)=>(x.N_,x.M_,x.t_,()),λ(a0,a,a2,_)=>i (show qh from⟨a0,a,a2⟩),λx y h=>by cases h;rfl⟩,
 ⟨192,j,[.str,.sl 112,.str,.int .i64,.int .i64],λ(x:qf)=>(x.N_,x.P_,x.R_.N_,x.R_.M_,x.R_.t_,()),λ(a0,a,a2,a3,a4,_)=>i (show qf from⟨a0,a,⟨a2,a3,a4⟩⟩),λx y h=>by cases h;rfl⟩,
 ⟨155,j,[.int .i64,.str,.int .i64,.int .i64],λ(x:q9)=>(x.k_,x.T_,x.n_,x.a_,()),λ(a0,a,a2,a3,_)=>i (show q9 from⟨a0,a,a2,a3⟩),λx y h=>by cases h;rfl⟩,
 ⟨93,j,[.int .i64,.str,.int .i64,.int .i64,.sl 93],λ(x:q6)=>(x.k_,x.T_,x.n_,x.a_,x.K_,()),λ(a0,a,a2,a3,a4,_)=>i (show q6 from⟨a0,a,a2,a3,a4⟩),λx y h=>by cases h;rfl⟩,
 ⟨261,j,[.str,.int .i64],λ(x:qn)=>(x.N_,x.z_,()),λ(a0,a,_)=>i (show qn from⟨a0,a⟩),λx y h=>by cases h;rfl⟩,
 ⟨264,j,[.int .i64,.int .i64,.int .i64],λ(x:qu)=>(x.X_,x.Y_,x.C_,()),λ(a0,a,a2,_)=>i (show qu from⟨a0,a,a2⟩),λx y h=>by cases h;rfl⟩,
 ⟨211,j,[.str,.int .i64,.int .i64,.sl 261,.sl 264],λ(x:qd)=>(x.N_,x.S_,x.o_,x.E_,x.U_,()),λ(a0,a,a2,a3,a4,_)=>i (show qd from⟨a0,a,a2,a3,a4⟩),λx y h=>by cases h;rfl⟩,
 ⟨3,d,[.int .i64],λ(x:Int)=>(x,()),λ(a0,_)=>i (show Int from a0),λx y h=>by cases h;rfl⟩,
 ⟨215,j,[.str,.int .i64,.int .i64],λ(x:qi)=>(x.N_,x.M_,x.t_,()),λ(a0,a,a2,_)=>i (show qi from⟨a0,a,a2⟩),λx y h=>by cases h;rfl⟩,
 ⟨217,j,[.str,.sl 215,.str,.int .i64,.int .i64],λ(x:qj)=>(x.N_,x.P_,x.R_.N_,x.R_.M_,x.R_.t_,()),λ(a0,a,a2,a3,a4,_)=>i (show qj from⟨a0,a,⟨a2,a3,a4⟩⟩),λx y h=>by cases h;rfl⟩,
 ⟨53,j,[.sl 89,.sl 189,.sl 192,.sl 93,.sl 211,.sl 217],λ(x:q13)=>(x.J_,x.I_,x.s_,x.r_,x.j_,x.q_,()),λ(a0,a,a2,a3,a4,a5,_)=>i (show q13 from⟨a0,a,a2,a3,a4,a5⟩),λx y h=>by cases h;rfl⟩,
 ⟨33,j,[.str,.int .i64,.sl 112],λ(x:qe)=>(x.N_,x.P_,x.V_,()),λ(a0,a,a2,_)=>i (show qe from⟨a0,a,a2⟩),λx y h=>by cases h;rfl⟩,
 ⟨76,j,[.str,.int .i64],λ(x:qz)=>(x.N_,x.n_,()),λ(a0,a,_)=>i (show qz from⟨a0,a⟩),λx y h=>by cases h;rfl⟩,
 ⟨79,j,[.int .i64,.int .i64,.str,.str,.str,.int .i64,.str,.int .i64,.sl 76,.int .i64,.bool],λ(x:qm)=>(x.O_,x.a_,x.X_,x.Y_,x.A_.N_,x.A_.n_,x.B_.N_,x.B_.n_,x.Q_,x.H_,x.h_,()),λ(a0,a,a2,a3,a4,a5,f,e,c,a9,b,_)=>i (show qm from⟨a0,a,a2,a3,⟨a4,a5⟩,⟨f,e⟩,c,a9,b⟩),λx y h=>by cases h;rfl⟩,
 ⟨30,j,[.str,.sl 9,.sl 79],λ(x:q1m)=>(x.N_,x.P_,x.L_,()),λ(a0,a,a2,_)=>i (show q1m from⟨a0,a,a2⟩),λx y h=>by cases h;rfl⟩,
 ⟨67,j,[.str,.int .i64,.sl 215],λ(x:qg)=>(x.N_,x.P_,x.V_,()),λ(a0,a,a2,_)=>i (show qg from⟨a0,a,a2⟩),λx y h=>by cases h;rfl⟩,
 ⟨180,j,[.str,.int .i64],λ(x:qp)=>(x.N_,x.n_,()),λ(a0,a,_)=>i (show qp from⟨a0,a⟩),λx y h=>by cases h;rfl⟩,
 ⟨183,j,[.int .i64,.int .i64,.str,.str,.str,.int .i64,.str,.int .i64,.sl 180,.int .i64,.bool],λ(x:qq)=>(x.O_,x.a_,x.X_,x.Y_,x.A_.N_,x.A_.n_,x.B_.N_,x.B_.n_,x.Q_,x.H_,x.h_,()),λ(a0,a,a2,a3,a4,a5,f,e,c,a9,b,_)=>i (show qq from⟨a0,a,a2,a3,⟨a4,a5⟩,⟨f,e⟩,c,a9,b⟩),λx y h=>by cases h;rfl⟩,
 ⟨64,j,[.str,.sl 9,.sl 183],λ(x:q1n)=>(x.N_,x.P_,x.L_,()),λ(a0,a,a2,_)=>i (show q1n from⟨a0,a,a2⟩),λx y h=>by cases h;rfl⟩,
 ⟨58,j,[.sl 33,.sl 30,.sl 67,.sl 64],λ(x:q1w)=>(x.J_,x.w_,x.r_,x.g_,()),λ(a0,a,a2,a3,_)=>i (show q1w from⟨a0,a,a2,a3⟩),λx y h=>by cases h;rfl⟩,
 ⟨39,j,[.str,.sl 9,.sl 79,.str,.int .i64,.sl 112,.sl 192,.sl 33,.sl 189],λ(x:ql)=>(x.c_.N_,x.c_.P_,x.c_.L_,x.F_.N_,x.F_.P_,x.F_.V_,x.G_,x.f_,x.W_,()),λ(a0,a,a2,a3,a4,a5,f,e,c,_)=>i (show ql from⟨⟨a0,a,a2⟩,⟨a3,a4,a5⟩,f,e,c⟩),λx y h=>by cases h;rfl⟩,
 ⟨69,j,[.str,.sl 9,.sl 183,.str,.int .i64,.sl 215,.sl 217,.sl 67,.sl 211],λ(x:q18)=>(x.c_.N_,x.c_.P_,x.c_.L_,x.F_.N_,x.F_.P_,x.F_.V_,x.G_,x.f_,x.W_,()),λ(a0,a,a2,a3,a4,a5,f,e,c,_)=>i (show q18 from⟨⟨a0,a,a2⟩,⟨a3,a4,a5⟩,f,e,c⟩),λx y h=>by cases h;rfl⟩,
 ⟨61,d,[.pz 69],λ(x:q18)=>(x,()),λ(a0,_)=>i (show q18 from a0),λx y h=>by cases h;rfl⟩,
 ⟨4,d,[.bool],λ(x:Bool)=>(x,()),λ(a0,_)=>i (show Bool from a0),λx y h=>by cases h;rfl⟩,
 ⟨46,d,[.sl 4],λ(x:(Sl Bool))=>(x,()),λ(a0,_)=>i (show(Sl Bool) from a0),λx y h=>by cases h;rfl⟩,
 ⟨72,d,[.sl 3],λ(x:(Sl Int))=>(x,()),λ(a0,_)=>i (show(Sl Int) from a0),λx y h=>by cases h;rfl⟩]
def CC:Cod:=zAe DD ET GLk glm (zsm zyd) (mp:=zAQ zyd) (nst:=λt=>bif m t 72 then 0 else bif m t 67 then 2 else bif m t 46 then 0 else bif m t 33 then 2 else 0) (own:=λt=>m t 72 || m t 67 || m t 46 || m t 33 || false) (bz:=λt=>m t 69 || false)
class Ok(P:Spec CC):Prop where
 o:P.OK prog
class Oks(Γ:List (Spec CC)):Prop where
 o:∀s∈Γ,s.OK prog
instance:Oks []:=⟨yL⟩
instance {P:Spec CC}{Γ:List (Spec CC)}[a:Ok P][b:Oks Γ]:Oks (P::Γ):=⟨zy a.o b.o⟩
theorem okP(P:Spec CC)[a:Ok P]:P.OK prog:=a.o
def od:List Nat->List (Nat×Bool):=List.map λn=>(n / 2,m (n % 2) 1)
def spA(b:Bool)(Γ:List (Spec CC))(f nr:Nat)(fn:Func)(I:Sig)(O:List (XK×Sig))(H:Nat->U3 Hint):Spec CC:=⟨f,nr,I,O,λx=>we ⟨b⟩ Γ lpO prog fn nr I O H x⟩
theorem kA {b : Bool} {Γ : List (Spec CC)} {f nr : Nat} {fn : Func} {I : Sig} {O : List (XK × Sig)} {H : Nat -> U3 Hint} [h : Oks Γ] (e : (Tryz.prog.funcs[f]?, (fn.name == "runtime.NumGoroutine"), fn.body.isNone) = (i fn, d, d) := by kernel_rfl) : Ok (spA b Γ f nr fn I O H) :=
 ⟨yK h.o ZG ZF H (Prod.mk.inj e).1 (Prod.mk.inj (Prod.mk.inj e).2).1 (Prod.mk.inj (Prod.mk.inj e).2).2 λx=>rfl⟩
abbrev ii:Sh :=.int .i64
abbrev c0:ESh :=.cell [.sl 192,.sl 189,.row 1,ii,.pr 1 33 0]
abbrev c1:ESh :=.cell [ii,.str,ii,ii,.nils]
abbrev c2:ESh :=.cell [.val 139]
abbrev c3:ESh :=.cell [.row 1,ii,ii,ii,ii]
abbrev c4:ESh :=.cell [.sl 217,.sl 211,.row 1,ii,ii]
abbrev c5:ESh :=.cell [ii,ii,.str,.str,.str,ii,.str,ii,.nils,ii,.bool]
abbrev c6:ESh :=.cell [.val 89]
abbrev c7:ESh :=.cell [.val 93]
abbrev c8:ESh :=.cell [.val 112]
abbrev c9:ESh :=.cell [ii,.str,ii,ii,.row 4]
abbrev c10:ESh :=.cell [.str,ii,ii,.nils,.nils]
abbrev c11:ESh :=.cell [ii]
abbrev c12:ESh :=.cell [.val 39]
abbrev c13:ESh :=.cell [.val 215]
abbrev c14:ESh :=.cell [ii,ii,.str,.str,.str,ii,.str,ii,.row 2,ii,.bool]
abbrev c15:ESh :=.cell [ii,ii,.str,.str,.str,ii,.str,ii,.row 3,ii,.bool]
abbrev c16:ESh :=.cell [.sl 192,.sl 189,.row 1,ii,.pnil]
abbrev c17:ESh :=.cell [.str,ii,ii,.row 1,.row 2]
abbrev c18:ESh :=.cell [.str,.nils,.str,ii,ii]
abbrev c19:ESh :=.cell [.row 1,.row 2,ii]
abbrev c20:ESh :=.cell [ii,.str,ii,ii,.row 3]
abbrev c21:ESh :=.cell [.val 155]
abbrev c22:ESh :=.cell [.val 79]
abbrev c23:ESh :=.cell [.str]
abbrev c24:ESh :=.cell [.nils,.nils,.nils,.nils,.nils,.nils]
abbrev c25:ESh :=.cell [.row 1]
abbrev c26:ESh :=.cell [.str,ii,.nils]
abbrev c27:ESh :=.cell [.row 5]
abbrev c28:ESh :=.cell [.row 4]
abbrev c29:ESh :=.cell [.row 2]
abbrev c30:ESh :=.cell [.str,ii,ii,.row 2,.nils]
abbrev c31:ESh :=.cell [.sl 217,.sl 211,.row 2,ii,ii]
abbrev c32:ESh :=.cell [.nils]
abbrev c33:ESh :=.cell [.row 7]
abbrev c34:ESh :=.cell [.str,ii,ii,.row 6,.nils]
abbrev c35:ESh :=.cell [.row 10,.row 6,ii]
abbrev c36:ESh :=.cell [.str,ii,ii,.row 2,.row 3]
abbrev c37:ESh :=.cell [.str,ii,ii,.row 6,.row 7]
abbrev c38:ESh :=.cell [.str,ii,ii,.row 5,.nils]
abbrev c39:ESh :=.cell [.sl 192,.sl 189,.row 5,ii,.pnil]
abbrev c40:ESh :=.cell [.str,.row 3,.str,ii,ii]
abbrev c41:ESh :=.cell [.row 8]
abbrev c42:ESh :=.cell [.row 6]
abbrev c43:ESh :=.cell [.str,.row 3,.nils]
abbrev c44:ESh :=.cell [ii,.str,ii,ii,.row 2]
abbrev c45:ESh :=.cell [.str,.nils,.nils]
abbrev c46:ESh :=.cell [.row 3,.row 2,ii]
abbrev c47:ESh :=.cell [.row 8,.row 4,ii]
abbrev c48:ESh :=.cell [.row 9]
abbrev c49:ESh :=.cell [.row 3,ii,ii,ii,ii]
abbrev c50:ESh :=.cell [.val 142]
abbrev c51:ESh :=.cell [.str,ii,ii,.row 7,.nils]
abbrev c52:ESh :=.cell [.str,.row 4,.str,ii,ii]
abbrev c53:ESh :=.cell [.str,.row 5,.str,ii,ii]
abbrev c54:ESh :=.cell [.nils,.nils,.nils,.nils]
abbrev c55:ESh :=.cell [.str,ii,.row 5]
abbrev c56:ESh :=.cell [.str,ii,.row 1]
abbrev c57:ESh :=.cell [.row 3]
abbrev c58:ESh :=.cell [.str,ii,ii,.row 4,.nils]
abbrev c59:ESh :=.cell [.row 5,.row 6,ii]
abbrev c60:ESh :=.cell [ii,.str,ii,ii,.row 5]
abbrev c61:ESh :=.cell [.str,ii,.row 7]
abbrev c62:ESh :=.cell [.val 53]
abbrev c63:ESh :=.cell [.row 8,.row 9,ii]
abbrev c64:ESh :=.cell [.row 4,.row 5,ii]
abbrev c65:ESh :=.cell [.str,ii,.row 6]
abbrev c66:ESh :=.cell [ii,ii]
abbrev GR:=XK×Sig
abbrev GS:=List (XK×Sig)
abbrev GT:=List ESh
abbrev GU:=List (Nat×Sh)
def Ja:GR:=(.pan (.ifc 135 (.agg [ii,ii])),⟨[],[c2]⟩)
def Jb:GS:=[(.normal,⟨[(4,.bool)],[]⟩)]
def J2:GT:=[c0,.forow 33]
def Jc:GR:=(.pan (.ifc 161 (.agg [ii,ii])),⟨[],J2⟩)
def HV:Sig:=⟨[],[c0,.orow 33]⟩
def JK:GR:=(.pan (.ifc 161 (.agg [ii,ii])),HV)
def JX:Sig:=⟨[(0,.pc 0 0),(4,.pc 2 0),(11,.sl 89),(12,ii),(13,ii)],[c0,.orow 33,c8]⟩
def Jd:GS:=[JK,(.normal,JX)]
def Je:GR:=(.normal,⟨[(0,.pc 0 0),(2,.pc 1 0),(3,.pc 2 0)],[c2,c1,c1]⟩)
def Jf:GT:=[c19,.row 3,.obj 0 118]
def Jg:GS:=[(.ret,⟨[(0,.agg [ii,.str,ii,ii,.row 2])],[c3,.row 155,.row 93]⟩)]
def Jz:GT:=[c3,.row 155,c1,c9,.row 93]
def Jh:GR:=(.normal,⟨[(0,.pc 0 0),(2,.pc 2 0),(5,.pc 3 0)],Jz⟩)
def Ji:GR:=(.pan (.ifc 161 (.agg [ii,ii])),⟨[(6,.pc 1 0),(7,.pc 2 0),(8,.pc 3 0)],[c6,c32,c11,c11]⟩)
def Jj:GR:=(.ret,⟨[(0,.agg [ii,.str,ii,ii,.row 1])],[c2,.row 89]⟩)
def Hc:GT:=[c17,.row 251,.row 306]
def Jk:GR:=(.pan (.ifc 203 (.agg [ii,ii])),⟨[],Hc⟩)
def Jl:GT:=[c35,c33,c41,c12,c48,.gone,.obj 0 118,.orow 46,.orow 46,.orow 72,.row 3]
def Jm:Sig:=⟨[(0,.pc 0 0)],[c3,.row 155]⟩
def Jn:GS:=[(.ret,⟨[(0,.bool)],[]⟩)]
def Jo:GR:=(.normal,⟨[(0,.pc 0 0),(4,.pc 2 0)],[c25,.row 79,c15,.row 76]⟩)
def G0:GT:=[c20,c11,c11,.row 89]
def Hl:Sig:=⟨[(2,.pc 0 0),(3,.pc 1 0),(4,.pc 2 0)],G0⟩
def Jp:GS:=[(.pan (.ifc 135 (.agg [ii,ii])),Hl),(.normal,⟨[(2,.pc 0 0),(3,.pc 1 0),(4,.pc 2 0),(6,.pc 3 0)],[c9,c11,c11,c2,.row 89]⟩)]
def Jq:GR:=(.normal,⟨[(0,.pc 0 0),(2,.pc 1 0)],[c2,c1]⟩)
def Jr:GR:=(.ret,⟨[(4,.pc 1 0),(5,ii),(6,ii)],[.row 211,c30,.row 261]⟩)
def Js:GS:=[(.normal,⟨[(29,.bool)],[]⟩)]
def Jt:GS:=[(.normal,⟨[(2,.pc 0 0),(4,.pc 1 0)],[c5,c14,.row 180]⟩)]
def Ju:Sig:=⟨[(2,.pc 1 0)],[c2,c6]⟩
def Ga:GT:=[c16,.forow 33]
def Jv:GR:=(.pan (.ifc 161 (.agg [ii,ii])),⟨[],Ga⟩)
def Jw:Sig:=⟨[(1,.clo 32 [.tup [.pc 0 0]]),(3,.pc 2 0),(6,.row 6),(19,.row 7),(20,ii),(21,ii)],[c47,c12,c27,.gone,.obj 0 118,.orow 46,.row 4,.row 3,.row 3]⟩
def Jx:GS:=[(.ret,⟨[(0,ii)],[]⟩)]
def Jy:GS:=[(.normal,⟨[(2,.pc 0 0),(3,.pc 1 0)],[c5,c14,.row 180]⟩)]
def J0:Sig:=⟨[(0,.pc 0 0)],[c2]⟩
def Hu:Sig:=⟨[],[c4,.orow 67]⟩
def J1:GS:=[(.ret,⟨[(6,ii)],[c4,.orow 67]⟩),(.normal,Hu)]
def J3:GS:=[(.normal,⟨[(0,.pc 0 0),(6,.pc 2 0)],[c25,.row 79,c15,.row 76]⟩)]
def J4:Sig:=⟨[(4,.pc 0 0),(5,.pc 1 0),(7,.pc 2 0),(12,.pc 3 0),(15,.row 4),(17,ii),(18,.pc 5 0),(19,.pc 6 0),(70,.sl 89),(71,ii),(72,ii)],[c24,c54,c62,c7,.orow 33,.cell [.sl 217,.sl 211,.row 7,ii,ii],.cell [.row 4,.row 8,.row 7,.row 9],.orow 67,.row 30,.row 64]⟩
def J5:GR:=(.ret,⟨[(4,.pc 0 0),(5,ii),(6,ii)],[c18]⟩)
def J6:Sig:=⟨[(3,.pc 0 0),(6,.pc 1 0),(7,.pc 2 0),(8,.pc 3 0),(9,.pc 4 0),(20,.sl 89),(21,ii),(22,ii)],[c6,c32,c11,c11,c39,.orow 33]⟩
def J7:Sig:=⟨[(0,.str),(1,ii),(4,.pc 0 0),(6,.pc 1 0),(7,ii),(13,ii),(14,.bool)],[c21,c21]⟩
def GB:GT:=[c3,.row 155,c1,c1]
def J8:Sig:=⟨[(0,.pc 0 0),(2,.pc 2 0),(3,.pc 3 0)],GB⟩
def J9:GR:=(.pan (.ifc 203 (.agg [ii,ii])),⟨[],[]⟩)
def Hh:GT:=[c4,.forow 67,c13,c13]
def JA:GS:=[(.ret,⟨[(6,.pc 2 0),(7,ii)],[c4,.forow 67,c13]⟩),(.normal,⟨[(6,.pc 2 0),(8,.pc 3 0)],Hh⟩)]
def JB:GS:=[(.normal,⟨[(1,.sl 211),(2,.pc 0 0),(4,.pc 1 0),(6,.pc 2 0)],[c7,c13,c13]⟩)]
def GO:GT:=[c17,.row 251,.row 306,c6,c66]
def JC:Sig:=⟨[(0,.pc 0 0),(2,.sl 89),(4,.pc 3 0),(6,.pc 4 0),(11,.sl 89),(12,ii),(13,ii)],GO⟩
def JD:GR:=(.normal,⟨[(4,.pc 1 0),(7,.row 2),(8,.row 3),(10,.pc 4 0),(16,ii)],[.row 211,c10,.row 93,.row 93,c38,.row 261]⟩)
def JE:GR:=(.normal,⟨[(0,.str),(5,.row 0),(6,ii),(7,.pc 1 0),(8,ii)],[.row 142,c50]⟩)
def JF:Sig:=⟨[(2,.pc 0 0),(8,.pc 1 0),(9,.pc 2 0)],[c1,c49,c9,.row 155,.row 93]⟩
def JG:GT:=[.row 211,c10,.row 93,.row 93,c7,c34,.row 261]
def JH:Sig:=⟨[(2,.pc 0 0),(9,ii),(10,.row 1),(12,ii),(13,.pc 2 0),(19,.row 3),(22,.pc 4 0),(72,.sl 89),(73,ii),(74,ii)],[c24,.row 192,c7,.row 217,.cell [.row 5,.sl 189,.row 1,.row 6,.sl 211,.row 3],.row 89,.row 93]⟩
def G5:GT:=[c0,.forow 33,c8,c8]
def JI:GR:=(.normal,⟨[(0,.pc 0 0),(4,.pc 2 0),(5,.pc 3 0)],G5⟩)
def JJ:Sig:=⟨[(2,.pc 1 0),(3,.pc 2 0),(4,.pc 3 0)],[c6,c28,c11,c11,.row 189]⟩
def JL:Sig:=⟨[(2,.pc 0 0),(3,.pc 1 0),(4,.pc 2 0),(17,.sl 89),(18,ii),(19,ii)],[c45,c43,c28,.row 9,.row 79]⟩
def JM:Sig:=⟨[(2,.pc 1 0),(3,.pc 2 0),(4,.pc 3 0),(9,.sl 89),(10,ii),(11,ii)],[c6,c28,c11,c11,.row 189]⟩
def JN:GR:=(.ret,⟨[(2,.nils),(3,ii),(4,ii)],[]⟩)
def JO:Sig:=⟨[(1,.clo 32 [.tup [.pc 0 0]]),(3,.pc 2 0),(6,.row 6),(8,ii),(19,.row 7),(20,ii),(21,ii),(39,ii),(40,ii)],[c47,c12,c27,.gone,.obj 0 118,.orow 46,.row 4,.row 3,.row 3]⟩
def JP:GU:=[(0,.pc 0 0),(1,.val 89)]
def JQ:GT:=[.row 211,c10,.row 93,.row 93,c37,.row 3,.row 261,.row 264]
def JR:Sig:=⟨[(0,ii),(1,.clo 32 [.tup [.pc 0 0]]),(2,.pc 1 0),(3,.pc 2 0),(4,.pc 3 0),(5,.pc 4 0)],[c59,c33,c41,c12,c48,.row 3,.obj 0 118,.orow 46,.orow 46,.orow 72]⟩
def JS:Sig:=⟨[(0,.sl 189),(3,.pc 0 0),(4,.pc 1 0),(5,.sl 89),(6,.row 2),(7,.pc 3 0),(9,.pc 4 0),(10,ii),(33,.sl 89),(34,ii),(35,ii)],[c6,c10,.row 89,c38,c6,.row 251]⟩
def JT:GS:=[(.normal,⟨[(1,.pc 0 0),(3,.nils),(8,.bool)],[c22]⟩)]
def JU:Sig:=⟨[(6,.pc 1 0),(7,.pc 2 0),(8,.pc 3 0),(9,.pc 4 0),(46,.sl 89),(47,ii),(48,ii)],[c6,c32,c11,c11,.cell [.sl 192,.sl 189,.row 5,ii,.pr 5 33 0],.orow 33]⟩
def JV:Sig:=⟨[],[c29,.gone,.row 79]⟩
def JW:Sig:=⟨[(4,.pc 1 0),(7,.row 2),(8,.row 3),(10,.pc 4 0),(16,ii),(17,ii)],[.row 211,c10,.row 93,.row 93,.cell [.str,ii,ii,.row 5,.row 6],.row 261,.row 264]⟩
def JY:GS:=[(.ret,⟨[(0,.val 93)],[c3,.row 155]⟩)]
def JZ:Sig:=⟨[(0,.str)],[]⟩
def Ka:GU:=[(0,.pc 0 0),(1,ii)]
def Kb:GS:=[(.ret,⟨[(4,ii)],[c23]⟩),(.exit 0,⟨[],[c23]⟩)]
def Kc:GU:=[(0,.str),(5,.row 0),(6,ii)]
def Kd:Sig:=⟨[(2,.row 0),(3,.row 1),(7,.sl 89),(8,ii),(9,ii)],[.row 89,.row 89]⟩
def Ke:Sig:=⟨[(0,ii),(1,.clo 32 [.tup [.pc 0 0]]),(2,.pc 1 0),(3,.pc 2 0),(12,ii),(53,.nx 9 72),(54,ii),(55,ii),(62,.nx 7 46),(63,ii),(64,ii)],Jl⟩
def Kf:GT:=[c2,c1,c20,.row 89]
def Kg:GT:=[c12,c27,c42,c33,.row 3,.orow 46,.orow 46,.orow 72]
def Kh:Sig:=⟨[(0,.val 89)],[]⟩
def Ki:Sig:=⟨[(0,.sl 189),(3,.pc 0 0),(4,.pc 1 0),(5,.sl 89),(6,.row 2),(7,.pc 3 0),(33,.sl 89),(34,ii),(35,ii)],[c6,c10,.row 89,c58,.row 251]⟩
def Kj:Sig:=⟨[(0,.val 39),(1,ii)],[]⟩
def Kk:GU:=[(1,ii),(2,.pc 0 0),(5,.row 1),(6,ii)]
def Kl:GR:=(.ret,⟨[(4,.pc 1 0),(5,ii),(6,ii)],[.row 211,c36,.row 261,.row 264]⟩)
def Km:GR:=(.ret,⟨[(0,.val 89)],[c2]⟩)
def Ko:GR:=(.ret,⟨[(0,.row 1)],[c2,.row 89]⟩)
def Kq:GT:=[.row 211,c10,.row 93,.row 93,c7,c51,c7,.row 261]
def Kr:GU:=[(0,.row 0),(1,ii),(2,ii)]
def Ks:Sig:=⟨[(0,.pc 0 0),(1,.pr 1 67 0),(2,.sl 93),(6,ii)],[c4,.orow 67]⟩
def Kt:Sig:=⟨[(1,.sl 189),(2,.pc 0 0),(4,.pc 1 0),(7,.pc 2 0),(8,ii),(11,.pc 3 0),(29,.sl 89),(30,ii),(31,ii)],[c6,c18,c52,c8,.row 112]⟩
def Ku:Sig:=⟨[(0,.pc 0 0),(3,.pc 2 0),(4,.pc 3 0),(5,ii),(6,.pc 4 0),(27,.sl 89),(28,ii),(29,ii)],[c16,.forow 33,c6,c26,c55,.row 112]⟩
def Kv:GU:=[(0,.pc 0 0),(1,.str)]
def Kx:GT:=[c46,.gone,.obj 0 118,.row 3]
def Ky:GS:=[(.normal,⟨[(0,.pc 0 0),(3,.pc 2 0),(4,.pc 3 0),(5,ii),(6,.pc 4 0),(7,ii),(11,.pc 5 0)],[c4,.forow 67,c7,c26,c65,c13,.row 215]⟩)]
def Kz:Sig:=⟨[(1,.pc 0 0),(12,.row 1),(13,ii),(14,ii)],[c12,.orow 46]⟩
def K0:GR:=(.ret,⟨[(4,.pc 2 0)],[c0,.forow 33,c8]⟩)
def K6:GS:=[(.ret,⟨[(0,.bool)],[c23]⟩)]
def K7:GS:=[(.normal,⟨[(2,.bool)],[]⟩)]
def K8:GR:=(.ret,⟨[(4,.nils),(5,ii),(6,ii)],[]⟩)
def K9:GR:=(.exit 0,⟨[(5,.row 1)],[c2,.row 89]⟩)
def KC:Sig:=⟨[(0,.str),(1,.str)],[]⟩
def KD:Sig:=⟨[(0,.int .u8)],[]⟩
def KE:Sig:=⟨[(0,ii),(1,.clo 32 [.tup [.pc 0 0]]),(2,.pc 1 0),(3,.pc 2 0),(53,.nx 9 72),(54,ii),(55,ii)],Jl⟩
def KF:GR:=(.normal,⟨[(0,.pc 0 0),(4,.pc 1 0),(5,.pc 2 0)],Kf⟩)
def KG:Sig:=⟨[(0,.val 93)],[]⟩
def KH:Sig:=⟨[(4,.pc 1 0),(7,.row 2),(8,.row 3),(10,.pc 4 0),(16,ii),(17,ii),(18,.row 5),(19,ii)],JQ⟩
def KI:Sig:=⟨[(1,.sl 211),(2,.pc 0 0),(4,.pc 1 0),(7,.pc 2 0),(8,ii),(9,ii)],[c7,c18,c40,.row 215]⟩
def KJ:Sig:=⟨[(2,.pc 0 0),(9,.pc 1 0),(11,.row 2),(48,.sl 112),(49,ii),(50,ii)],[c12,c22,.row 3]⟩
def KL:Sig:=⟨[(0,.pc 0 0),(4,.pc 2 0),(5,.pc 3 0)],Jz⟩
def KM:GU:=[(0,.pc 0 0),(1,ii),(2,ii)]
def KO:GS:=[(.ret,⟨[(0,ii)],[.forow 67]⟩)]
def KP:GS:=[(.normal,⟨[(2,.pc 0 0),(3,.pc 1 0)],[c5,c5]⟩)]
def KQ:Sig:=⟨[(0,.row 0),(4,.pc 1 0),(7,.row 2),(8,.row 3),(9,.pc 4 0),(10,.pc 5 0),(12,ii)],JG⟩
def KR:Sig:=⟨[(30,.row 0),(31,ii),(32,ii)],[.row 39]⟩
def KT:Sig:=⟨[(1,.pc 0 0),(2,.pc 1 0),(3,.pc 2 0),(5,.pc 3 0),(6,.row 4),(20,ii),(21,ii)],Kg⟩
def KU:GS:=[(.ret,⟨[(4,ii)],[]⟩),(.exit 0,⟨[],[]⟩)]
def KV:GR:=(.ret,⟨[(6,ii)],[.forow 67]⟩)
def KW:GU:=[(0,.pc 0 0),(1,.pc 1 0),(2,.pc 2 0),(3,.nili)]
def KX:Sig:=⟨[(0,.agg [ii,ii,.str,.str,.str,ii,.str,ii,.row 0,ii,.bool])],[.row 180]⟩
def KY:GR:=(.ret,⟨[(2,ii),(3,ii)],[]⟩)
def KZ:Sig:=⟨[],[.cell [.row 6,.row 4,ii],c12,c27,.gone,.obj 0 118,.orow 46,.row 3]⟩
def Ha:Sig:=⟨[(0,.pc 0 0),(2,.pc 1 0),(3,.pc 2 0),(69,.pc 3 0)],[c2,c1,c1,.cell []]⟩
def Hb:GR:=(.normal,⟨[(2,.pc 1 0),(3,.pc 2 0)],Kf⟩)
def He:GR:=(.ret,⟨[(2,.pc 1 0)],[c2,c44,.row 89]⟩)
def Hf:GS:=[(.ret,⟨[(0,ii)],[c23]⟩)]
def Hg:Sig:=⟨[(1,.sl 189),(7,.row 0),(14,.sl 89),(15,ii),(16,ii)],[.row 192]⟩
def Hi:GS:=[(.normal,⟨[(0,.str),(1,ii),(2,ii),(3,ii),(4,ii),(11,.row 0)],[.row 264]⟩)]
def Hj:GU:=[(0,.pc 0 0),(1,.pr 1 67 0),(2,.val 93)]
def Hk:GS:=[(.normal,⟨[(0,.pc 0 0),(2,.pc 1 0),(3,.pc 2 0),(18,.bool)],[c2,c1,c1]⟩)]
def Hm:Sig:=⟨[(0,.val 93),(1,.sl 211)],[]⟩
def Hn:Sig:=⟨[(0,.val 89),(1,.sl 189)],[]⟩
def Ho:Sig:=⟨[(0,.str),(1,ii),(4,.pc 0 0),(6,.pc 1 0),(7,ii)],[c21,c21]⟩
def Hp:Sig:=⟨[(3,.row 0),(26,.row 1),(27,ii),(28,ii)],[.row 9,.row 76]⟩
def Hq:Sig:=⟨[(1,.sl 211),(2,.pc 0 0),(7,.row 1),(8,ii)],[c7,.row 217]⟩
def Hs:Sig:=⟨[(0,.str),(1,ii),(2,ii)],[]⟩
def Ht:GT:=[c7,c31,.orow 67]
def Hv:Sig:=⟨[],[c3,.row 155]⟩
def Hw:GS:=[(.ret,⟨[(4,ii)],[.row 112,c8]⟩),(.exit 0,⟨[],[.row 112,c8]⟩)]
def Hx:GT:=[c28,c27,c12,c42,.forow 46,.forow 46,.forow 72,c63,.row 3,.obj 0 118]
def Hy:GS:=[(.ret,⟨[(0,.row 0)],[.row 3]⟩)]
def Hz:Sig:=⟨[(0,.pc 0 0),(4,.pc 2 0),(5,.pc 3 0),(7,.bool)],Jz⟩
def H0:Sig:=⟨[(0,.pc 0 0),(4,.pc 2 0),(5,.pc 3 0),(6,.bool)],Jz⟩
def H3:Sig:=⟨[(0,.row 0),(1,.clo 128 [.pc 1 0])],[.row 112,c8]⟩
def H4:Sig:=⟨[(0,.row 0),(1,.clo 126 [.pc 1 0])],[.row 112,c8]⟩
def H5:GR:=(.ret,⟨[(4,.row 0)],[.row 3]⟩)
def H6:Sig:=⟨[(0,.pc 0 0),(3,.pc 1 0),(4,.pc 2 0)],[c2,c6,c1]⟩
def H7:Sig:=⟨[(0,.ifc 117 (.pc 0 0)),(1,ii),(2,ii),(7,ii)],Jf⟩
def H8:GT:=[c6,c32,c11,c11,.cell [.sl 192,.sl 189,.row 5,ii,.und],.orow 33]
def H9:Sig:=⟨[],[c28,c27,c12,c42,.orow 46,.orow 46,.orow 72]⟩
def HA:GR:=(.ret,⟨[],J2⟩)
def HB:Sig:=⟨[(1,.pc 0 0),(5,.row 1),(6,ii)],[c7,.row 211]⟩
def HC:GU:=[(0,.agg [ii,.str,ii,ii,.nils])]
def HD:GS:=[(.ret,⟨[(10,.row 0)],[.row 306]⟩),(.normal,⟨[],[]⟩)]
def HE:Sig:=⟨[(0,.str),(1,ii),(2,ii),(3,ii),(4,ii)],[]⟩
def HF:Sig:=⟨[(0,.sl 89),(1,.clo 164 [.pc 0 0])],[c23]⟩
def HG:GR:=(.ret,⟨[(0,.val 112)],J2⟩)
def HH:GR:=(.normal,⟨[],J2⟩)
def HI:GR:=(.exit 0,⟨[],[.forow 67]⟩)
def HJ:Sig:=⟨[(0,.pc 0 0),(2,.pc 2 0),(3,.pc 3 0)],Jz⟩
def HK:Sig:=⟨[(0,.pc 0 0),(2,.pc 1 0),(3,.pc 2 0)],Kf⟩
def HL:GU:=[(0,.pc 0 0),(3,.pc 2 0),(4,.pc 3 0),(5,ii),(6,.pc 4 0)]
def HM:Sig:=⟨[(2,.pc 2 0)],[c3,.row 155,c20,.row 93]⟩
def HN:GS:=[(.exit 0,⟨[(1,ii)],[]⟩)]
def HO:GS:=[(.ret,⟨[(4,ii)],[c22]⟩),(.exit 0,⟨[],[c22]⟩)]
def HP:Sig:=⟨[(0,.pr 0 67 0),(1,.str)],[.forow 67]⟩
def HQ:GT:=[c7,c18,c53,c7,c13,.row 215]
def HR:GS:=[(.ret,⟨[(4,.sl 112)],[]⟩),(.normal,⟨[],[]⟩)]
def HS:Sig:=⟨[(3,.pc 1 0),(4,.pc 2 0)],[c2,c6,c1]⟩
def HT:Sig:=⟨[(3,.pc 0 0),(7,.pc 1 0),(10,ii)],Ht⟩
def HU:Sig:=⟨[(0,.val 215),(1,ii)],[c4,.forow 67]⟩
def HW:Sig:=⟨[(0,.val 39)],[]⟩
def HX:Sig:=⟨[(0,.str),(1,ii),(2,.clo 82 [])],[]⟩
def HY:Sig:=⟨[(0,.str),(1,ii),(2,.clo 78 [])],[]⟩
def HZ:Sig:=⟨[(0,.str),(1,ii),(2,.clo 77 [])],[]⟩
def Gb:GR:=(.ret,⟨[(4,.bool)],[]⟩)
def Gc:Sig:=⟨[(0,.ifc 117 (.pc 0 0)),(1,ii)],Jf⟩
def Gd:GU:=[(0,.pc 0 0),(4,.pc 2 0),(5,.pc 3 0),(10,.pc 4 0)]
def Ge:GS:=[(.pan (.ifc 203 (.agg [ii,ii])),JJ),(.normal,JM)]
def Gf:GU:=[(0,.val 112),(1,.pc 0 0)]
def Gg:GT:=[c12,c29,.orow 46]
def Gh:Sig:=⟨[(0,.val 89),(1,.pc 0 0)],[c23]⟩
def Gj:GT:=[.forow 33,c6]
def Gk:GU:=[(4,.pc 0 0),(6,.pc 1 0)]
def Gl:Sig:=⟨[(4,.pc 1 0)],[c2,c44,.row 89]⟩
def Gm:GU:=[(1,.pc 0 0),(2,.pc 1 0),(3,.pc 2 0),(4,ii)]
def Gn:Sig:=⟨[(7,.pc 0 0)],[c4,.orow 67]⟩
def Gp:GT:=[c57,c11,c11,.forow 33]
def Gq:GT:=[c0,.forow 33,c6,c8,c8]
def Gs:Sig:=⟨[(4,.pc 0 0),(5,ii)],[c21]⟩
def Gt:Sig:=⟨[(0,.bool)],[c3,.row 155]⟩
def Gu:Sig:=⟨[(0,.bool)],[.row 112,c8]⟩
def Gv:GT:=[c57,c11,c11,.row 189]
def Gw:GT:=[c4,.forow 67,c7,c26,c61,c7,c13,.row 215]
def Gx:GT:=[c12,c29,.forow 46,c64,.row 3,.obj 0 118]
def Gy:Sig:=⟨[(0,.val 142),(1,ii)],[]⟩
def Gz:Sig:=⟨[(0,.val 93),(1,ii)],[]⟩
def G1:Sig:=⟨[(0,ii)],[.row 112,c8]⟩
def G3:Sig:=⟨[(5,.row 0)],[.row 3]⟩
def G4:Sig:=⟨[(0,.row 0)],[.row 4]⟩
def G6:GS:=[(.ret,⟨[],Kx⟩)]
def G7:Sig:=⟨[(0,.str),(1,ii)],[]⟩
def G8:Sig:=⟨[(0,.ifc 3 (ii))],Kx⟩
def G9:GS:=[(.normal,J8)]
def GA:Sig:=⟨[(0,.val 142)],[c2]⟩
def GC:GT:=[c25,.row 79,c6,c5]
def GD:Sig:=⟨[(1,ii),(7,ii)],Jf⟩
def GE:GT:=[c4,.forow 67,c7,c26,c55,.row 215]
def GF:Sig:=⟨[],[c4,.forow 67]⟩
def GG:Sig:=⟨[(0,.bool)],[c22]⟩
def GH:Sig:=⟨[(0,.val 76)],[]⟩
def GI:Sig:=⟨[(0,.pc 0 0)],Jf⟩
def GJ:Sig:=⟨[(0,.bool)],[c8]⟩
def GL:Sig:=⟨[(0,.bool)],[c2]⟩
def GM:Sig:=⟨[(0,ii)],[c22]⟩
def GN:Sig:=⟨[(0,.bool)],Jf⟩
def GP:GT:=[c4,.orow 67,c7]
def GQ:GS:=[(.exit 0,⟨[(3,ii)],[]⟩)]
def P0:=spA d [] 77 1 f77 KD Jn (hfind [])
instance:Ok P0:=kA
def P1:=spA d [P0] 76 1 f76 HZ Jx (hfind [(4,.loop HZ HN),(7,.cut [(.normal,⟨[(0,.str),(1,ii),(2,.clo 77 []),(17,.bool)],[]⟩)])])
instance:Ok P1:=kA
def P2:=spA d [] 78 1 f78 KD Jn (hfind [(3,.cut K7)])
instance:Ok P2:=kA
def P3:=spA d [P2] 76 1 f76 HY Jx (hfind [(4,.loop HY HN),(7,.cut [(.normal,⟨[(0,.str),(1,ii),(2,.clo 78 []),(17,.bool)],[]⟩)])])
instance:Ok P3:=kA
def I4:Sig:=Hs
def O4:List (XK×Sig):=[(.ret,⟨[(0,ii),(1,.nili)],[]⟩),(.ret,⟨[(0,ii),(1,.ifc 312 (.und))],[]⟩)]
def F4(x:I4.ty CC):U3 (zh CC O4):=wx x
def P4:Spec CC:=⟨133,2,I4,O4,F4⟩
theorem K4:P4.OK prog:=zi8 (fn:=f133) jO jO jO (λs hs v h w=>Tryz.strconv_ParseInt_10_at64_ok s hs v h w) (λs hs h w Z c b=>by
    obtain⟨⟨t,p,a⟩,_⟩:=c
    refine(Tryz.strconv_ParseInt_10_at64_syntax s hs h _ w (b 0 0 _ a) (.inr ⟨_,_,rfl⟩)).mono ?_
    rintro e w' ⟨N,rfl,_,_,hb⟩
    exact⟨_,rfl,hb⟩) (λs hs h w Z c b=>by
    obtain⟨_,t,p,a⟩:=c
    refine(Tryz.strconv_ParseInt_10_at64_range s hs h _ w (b 1 0 _ a) (.inr ⟨_,_,rfl⟩)).mono ?_
    rintro e w' ⟨N,rfl,_,_,hb⟩
    exact⟨_,rfl,hb⟩)
instance:Ok P4:=⟨K4⟩
def P5:=spA d [] 80 1 f80 KD Jn (hfind [(3,.cut K7)])
instance:Ok P5:=kA
def P6:=spA d [P4,P5] 79 2 f79 Hs [(.ret,Gy)] (hfind [(5,.cut [(.normal,⟨[(0,.str),(1,ii),(2,ii),(6,.pc 0 0),(8,.str),(9,ii),(10,.nili)],[c50]⟩),(.normal,⟨[(0,.str),(1,ii),(2,ii),(6,.pc 0 0),(8,.str),(9,ii),(10,.ifc 312 (.und))],[c50]⟩)])])
instance:Ok P6:=kA
def P7:=spA d [P5,P2] 82 1 f82 KD Jn (hfind [(3,.cut K7)])
instance:Ok P7:=kA
def P8:=spA d [P7] 76 1 f76 HX Jx (hfind [(4,.loop HX HN),(7,.cut [(.normal,⟨[(0,.str),(1,ii),(2,.clo 82 []),(17,.bool)],[]⟩)])])
instance:Ok P8:=kA
def P9:=spA d [] 134 1 f134 JZ Jn (hfind [(9,.cut Jb),(13,.cut Jb),(17,.cut Jb),(21,.cut Jb),(25,.cut Jb),(29,.cut Jb),(33,.cut Jb),(37,.cut Jb),(41,.cut Jb),(45,.cut Jb),(49,.cut Jb),(53,.cut Jb),(57,.cut Jb),(61,.cut Jb),(65,.cut Jb),(69,.cut Jb),(73,.cut Jb),(77,.cut Jb),(81,.cut Jb)])
instance:Ok P9:=kA
def P10:=spA d [P9] 81 2 f81 Hs [(.ret,Gy)] (hfind [(15,.cut [(.normal,⟨[(6,.pc 0 0),(8,.pc 1 0)],[c50,c50]⟩)])])
instance:Ok P10:=kA
def P11:=spA d [] 171 1 f171 KC Jn (hfind [(3,.cut Jb)])
instance:Ok P11:=kA
def P12:=spA d [P11] 135 1 f135 KC Jn (hfind [])
instance:Ok P12:=kA
def I13:Sig:=⟨[(0,.str),(1,.int .u8)],[]⟩
def O13:List (XK×Sig):=Jx
def F13(x:I13.ty CC):U3 (zh CC O13):=Wl x
def P13:Spec CC:=⟨136,1,I13,O13,F13⟩
theorem K13:P13.OK prog:=zhJ (fn:=f136) jO jO jO λs c w=>Tryz.strings_IndexByte s c w
instance:Ok P13:=⟨K13⟩
def P14:=spA d [P12,P13] 83 1 f83 JZ [(.ret,JZ)] (hfind [(6,.loop ⟨[(0,.str),(5,.agg [.str,.str,.str]),(6,ii)],[]⟩ [(.ret,⟨[(2,.str)],[]⟩),(.exit 0,JZ)])])
instance:Ok P14:=kA
def P15:=spA d [P1,P2,P3,P6,P5,P8,P10,P14] 39 3 f39 JZ [(.ret,⟨Kr,[.row 142]⟩)] (hfind [(2,.cut [(.ret,⟨[(2,.row 0),(3,ii),(4,ii)],[.row 142]⟩)]),(19,.loop ⟨Kc,[.row 142]⟩ [JN,(.exit 0,⟨[(0,.str),(5,.row 0)],[.row 142]⟩)]),(26,.cut [(.normal,⟨Kc,[.row 142]⟩),JN]),(36,.cut [(.normal,⟨[(0,.str),(5,.row 0),(6,ii),(7,.pc 1 0),(8,ii),(9,.int .u8),(29,.bool)],[.row 142,c50]⟩)]),(37,.cut [(.exit 1,⟨Kc,[.row 142]⟩),JE]),(49,.cut [JE]),(53,.cut [JE]),(59,.cut [JE])])
instance:Ok P15:=kA
def P16:=spA d [] 41 1 f41 J0 [(.ret,GA)] (hfind [])
instance:Ok P16:=kA
def P17:=spA d [P16] 84 1 f84 ⟨Kv,[c2]⟩ [(.ret,GL)] (hfind [(5,.cut [(.normal,⟨[(4,.bool)],[c2]⟩)])])
instance:Ok P17:=kA
def P18:=spA d [P17] 42 1 f42 ⟨Kv,[c2]⟩ [(.ret,GL)] (hfind [])
instance:Ok P18:=kA
def P19:=spA d [P16] 88 0 f88 ⟨Ka,[c2]⟩ [Ja] (hfind [])
instance:Ok P19:=kA
def P20:=spA d [P16,P19] 137 1 f137 ⟨Ka,[c2]⟩ [Ja,(.ret,GA)] (hfind [])
instance:Ok P20:=kA
def P21:=spA d [P20] 85 1 f85 J0 [Ja,(.ret,⟨HC,[c2]⟩)] (hfind [])
instance:Ok P21:=kA
def P22:=spA d [P18,P19] 44 0 f44 ⟨Kv,[c2]⟩ [Ja,(.ret,⟨[],[c2]⟩)] (hfind [])
instance:Ok P22:=kA
def P23:=spA d [P16,P18,P22,P21] 89 1 f89 J0 [Km,Ja] (hfind [(14,.cut [Je,Ja]),(20,.cut [Je])])
instance:Ok P23:=kA
def P24:=spA d [P21,P22,P23] 87 1 f87 J0 [Ja,Jj] (hfind [])
instance:Ok P24:=kA
def P25:=spA d [P24,P18] 86 1 f86 ⟨[(0,.pc 0 0),(1,.clo 87 [.tup [.pc 0 0]])],[c2]⟩ [Ja,Ko] (hfind [(6,.loop ⟨[(0,.pc 0 0),(1,.clo 87 [.tup [.pc 0 0]]),(5,.row 1)],[c2,.row 89]⟩ [Ja,K9])])
instance:Ok P25:=kA
def P26:=spA d [] 173 1 f173 ⟨[(0,.val 89),(1,.pc 0 0)],[c11]⟩ [(.ret,⟨[(0,.val 89)],[c11]⟩)] (hfind [])
instance:Ok P26:=kA
def P27:=spA d [P22] 174 1 f174 ⟨JP,[c2]⟩ [Ja,Km] (hfind [])
instance:Ok P27:=kA
def P28:=spA d [P20] 179 1 f179 ⟨Ka,[c2]⟩ [Ja,(.ret,⟨[(0,ii)],[c2]⟩)] (hfind [])
instance:Ok P28:=kA
def P29:=spA d [P21,P22,P28] 175 1 f175 ⟨Ka,[c2]⟩ [Ja,(.ret,⟨HC,[c2]⟩)] (hfind [])
instance:Ok P29:=kA
def P30:=spA d [P18,P28] 180 1 f180 ⟨JP,[c2]⟩ [Ja,Km] (hfind [(6,.cut [Ja,(.normal,HS)]),(10,.cut [Ja,(.normal,HS)])])
instance:Ok P30:=kA
def P31:=spA d [P16,P28,P18,P21,P30] 139 1 f139 J0 [Ja,Km] (hfind [(8,.cut [Ja,(.ret,⟨[(2,.pc 1 0)],[c2,c1]⟩),Jq]),(20,.cut [Ja,(.normal,Ju)])])
instance:Ok P31:=kA
def P32:=spA d [P18,P19] 140 1 f140 J0 [(.ret,⟨[(0,.str)],[c2]⟩),Ja] (hfind [(6,.loop ⟨[(0,.pc 0 0),(5,.agg [.str,.str,.str]),(6,ii)],[c2]⟩ [(.ret,⟨[(2,.str)],[c2]⟩),(.exit 0,J0)])])
instance:Ok P32:=kA
def P33:=spA d [P31,P32] 93 1 f93 J0 [Ja,Jj] (hfind [(7,.draw (od [1,3,5,7,9,10,12,15,16]) [])])
instance:Ok P33:=kA
def P34:=spA d [P31,P18] 86 1 f86 ⟨[(0,.pc 0 0),(1,.clo 139 [.tup [.pc 0 0]])],[c2]⟩ [Ja,Ko] (hfind [(6,.loop ⟨[(0,.pc 0 0),(1,.clo 139 [.tup [.pc 0 0]]),(5,.row 1)],[c2,.row 89]⟩ [Ja,K9])])
instance:Ok P34:=kA
def P35:=spA d [P22,P18,P34] 177 1 f177 J0 [Ja,Ko] (hfind [])
instance:Ok P35:=kA
def I36:Sig:=J0
def O36:List (XK×Sig):=[Ja,Km]
def H36:Nat->U3 Hint:=hfind [(8,.cut [Ja,(.ret,Ju),Je]),(16,.cut [Ja,(.ret,Ju),Je]),(24,.cut [Ja,(.ret,Ju),Je]),(30,.cut [Je]),(51,.cut [Ja,He,Je]),(59,.cut [Ja,He,Je]),(69,.cut [Ja,He,Je]),(70,.loop Ha []),(83,.cut [(.normal,⟨[(0,.pc 0 0),(2,.pc 1 0),(3,.pc 2 0),(4,.str),(5,ii),(69,.pc 3 0),(87,.bool)],[c2,c1,c1,.cell []]⟩)]),(84,.cut [(.pan (.ifc 135 (.agg [ii,ii])),⟨[],[c2,c1,c1,.cell []]⟩),(.ret,⟨[(2,.pc 1 0)],[c2,c9,c1,.cell [],.row 89]⟩),(.normal,Ha)]),(88,.draw (od [1,3,5,7,9,10,12,15,16]) [])]
def F36(x:I36.ty CC):U3 (zh CC O36):=zoL ⟨d⟩ [P16,P18,P28,P21,P31,P17,P35,P22,P30] lpO prog f194 1 I36 O36 H36 x
def P36:Spec CC:=⟨194,1,I36,O36,F36⟩
theorem K36:Spec.OK prog P36:=zwU Oks.o ZG ZF H36 jO jO jO λx=>rfl
instance:Ok P36:=⟨K36⟩
def P37:=spA d [P17,P35,P18,P31,P22,P36] 178 1 f178 ⟨JP,[c2]⟩ [Ja,Jj] (hfind [(6,.cut [Ja,(.ret,Gl),(.normal,H6)]),(16,.cut [Ja,(.ret,Gl),(.normal,H6)]),(24,.draw (od [1,3,5,6,8,10,13,14]) [])])
instance:Ok P37:=kA
def I38:Sig:=⟨KM,[c2]⟩
def O38:List (XK×Sig):=[Ja,Jj]
def H38:Nat->U3 Hint:=hfind [(7,.draw (od [1,3,5,6,8,10,13,14]) [])]
def I39:Sig:=J0
def O39:List (XK×Sig):=[Ja,Km]
def H39:Nat->U3 Hint:=hfind [(10,.cut [Ja,(.ret,Ju),Jq]),(20,.cut [Ja,(.ret,Ju),Jq]),(22,.cut [Ja,(.normal,Ju)]),(26,.cut [Ja,(.ret,Ju),Jq]),(28,.cut [Ja,(.normal,Ju)]),(32,.cut [Ja,(.ret,Ju),Jq]),(38,.cut [Ja,(.normal,⟨[(2,.pc 1 0),(6,.pc 2 0)],Kf⟩)]),(39,.draw (od [1,3,5,6,8,10,13,14]) []),(46,.cut [Ja,(.ret,Ju),Jq]),(52,.cut [Ja,(.ret,Ju),Jq]),(58,.cut [Ja,(.normal,⟨[(0,.pc 0 0),(2,.pc 1 0),(7,.pc 2 0)],Kf⟩)]),(66,.cut [Ja,(.ret,Ju),Jq]),(72,.cut [Ja,(.ret,Ju),Jq]),(82,.cut [Ja,(.normal,Ju)])]
def I40:Sig:=J0
def O40:List (XK×Sig):=[Ja,Jj]
def H40:Nat->U3 Hint:=hfind [(6,.cut [(.normal,⟨[(0,.pc 0 0),(2,.pc 1 0),(3,.pc 2 0),(16,.bool)],[c2,c1,c1]⟩)]),(16,.loop HK [Ja,(.exit 0,HK)]),(24,.draw (od [1,3,5,6,8,10,13,14]) [])]
def zhS(h:I40.ty CC->U3 (zh CC O40)):Spec CC:=⟨90,1,I40,O40,h⟩
def zlg(h:I40.ty CC->U3 (zh CC O40))(x:I38.ty CC):U3 (zh CC O38):=we ⟨d⟩ [P33,zhS h] lpO prog f176 1 I38 O38 H38 x
def zye(h:I40.ty CC->U3 (zh CC O40)):Spec CC:=⟨176,1,I38,O38,zlg h⟩
theorem zyf{h:I40.ty CC->U3 (zh CC O40)}(a:Spec.OK prog (zhS h)):Spec.OK prog (zye h):=yK (zy (okP P33) (zy a yL)) ZG ZF H38 jO jO jO λx=>rfl
def zlh(h:I40.ty CC->U3 (zh CC O40))(x:I39.ty CC):U3 (zh CC O39):=we ⟨d⟩ [P16,P18,P21,P26,P27,P29,zye h,zhS h,P17,P31,P35,P37] lpO prog f138 1 I39 O39 H39 x
def zyg(h:I40.ty CC->U3 (zh CC O40)):Spec CC:=⟨138,1,I39,O39,zlh h⟩
theorem zyh{h:I40.ty CC->U3 (zh CC O40)}(a:Spec.OK prog (zhS h)):Spec.OK prog (zyg h):=yK (zy (okP P16) (zy (okP P18) (zy (okP P21) (zy (okP P26) (zy (okP P27) (zy (okP P29) (zy (zyf a) (zy a (zy (okP P17) (zy (okP P31) (zy (okP P35) (zy (okP P37) yL)))))))))))) ZG ZF H39 jO jO jO λx=>rfl
def zoS(h:I40.ty CC->U3 (zh CC O40))(x:I40.ty CC):U3 (zh CC O40):=we ⟨d⟩ [P16,P17,P19,P22,P18,zyg h] lpO prog f90 1 I40 O40 H40 x
def zAS(h:I40.ty CC->U3 (zh CC O40)):Spec CC:=⟨90,1,I40,O40,zoS h⟩
theorem zAT{h:I40.ty CC->U3 (zh CC O40)}(a:Spec.OK prog (zhS h)):Spec.OK prog (zAS h):=yK (zy (okP P16) (zy (okP P17) (zy (okP P19) (zy (okP P22) (zy (okP P18) (zy (zyh a) yL)))))) ZG ZF H40 jO jO jO λx=>rfl
def zfE:Nat->I40.ty CC->U3 (zh CC O40)
 |0=>λ_=>q
 |k+1=>zoS (zfE k)
theorem zoT:∀k,Spec.OK prog (zhS (zfE k))
 |0=>⟨f90,jO,jO,jO,λx r h=>by cases h⟩
 |k+1=>zAT (zoT k)
def F38(x:I38.ty CC):U3 (zh CC O38):=zlg (zfE 100000) x
def P38:Spec CC:=⟨176,1,I38,O38,F38⟩
theorem K38:Spec.OK prog P38:=zyf (zoT 100000)
instance:Ok P38:=⟨K38⟩
def F39(x:I39.ty CC):U3 (zh CC O39):=zlh (zfE 100000) x
def P39:Spec CC:=⟨138,1,I39,O39,F39⟩
theorem K39:Spec.OK prog P39:=zyh (zoT 100000)
instance:Ok P39:=⟨K39⟩
def F40(x:I40.ty CC):U3 (zh CC O40):=zfE 100000 x
def P40:Spec CC:=⟨90,1,I40,O40,F40⟩
theorem K40:Spec.OK prog P40:=zoT 100000
instance:Ok P40:=⟨K40⟩
def P41:=spA d [P21,P22,P17,P25,P18,P19,P23,P16,P40] 43 1 f43 ⟨Ka,[c2]⟩ [Ja,Jj] (hfind [(11,.cut [Ja,KF]),(21,.cut [Ja,(.normal,⟨[(0,.pc 0 0),(4,.pc 1 0),(5,.pc 2 0),(6,.pc 3 0)],[c2,c1,c9,c6,.row 89]⟩)]),(31,.draw (od [1,3,5,7,8,10,12,15,16]) [])])
instance:Ok P41:=kA
def P42:=spA d [P16,P18,P21,P19] 91 1 f91 J0 [Jj,Ja] (hfind [(9,.cut [(.normal,⟨[(0,.pc 0 0),(2,.pc 1 0),(3,.pc 2 0),(13,.bool)],[c2,c1,c1]⟩)]),(12,.cut [Hb,Ja]),(17,.cut Hk),(21,.cut Hk),(24,.cut [Ja,Hb])])
instance:Ok P42:=kA
def P43:=spA d [P21,P18,P22] 92 1 f92 J0 [Ja,Jj] (hfind [(9,.cut [Ja,Hb])])
instance:Ok P43:=kA
def P44:=spA d [P43,P18] 86 1 f86 ⟨[(0,.pc 0 0),(1,.clo 92 [.tup [.pc 0 0]])],[c2]⟩ [Ja,Ko] (hfind [(6,.loop ⟨[(0,.pc 0 0),(1,.clo 92 [.tup [.pc 0 0]]),(5,.row 1)],[c2,.row 89]⟩ [Ja,K9])])
instance:Ok P44:=kA
def P45:=spA d [P33,P18] 86 1 f86 ⟨[(0,.pc 0 0),(1,.clo 93 [.tup [.pc 0 0]])],[c2]⟩ [Ja,Ko] (hfind [(6,.loop ⟨[(0,.pc 0 0),(1,.clo 93 [.tup [.pc 0 0]]),(5,.row 1)],[c2,.row 89]⟩ [Ja,K9])])
instance:Ok P45:=kA
def P46:=spA d [P21,P42,P18,P44,P22,P45] 45 1 f45 ⟨Ka,[c2]⟩ [Ja,Jj] (hfind [(9,.cut [Ja,KF]),(11,.draw (od [1,3,5,7,9,10,12,15,16]) []),(17,.cut [Ja,KF]),(18,.draw (od [1,3,5,7,9,10,12,15,16]) [])])
instance:Ok P46:=kA
def I47:Sig:=Kh
def O47:List (XK×Sig):=Jx
def H47:Nat->U3 Hint:=hfind [(8,.loop ⟨[(3,ii),(7,.sl 89),(8,ii),(9,ii)],[]⟩ GQ)]
def zta(h:I47.ty CC->U3 (zh CC O47)):Spec CC:=⟨46,1,I47,O47,h⟩
def zoU(h:I47.ty CC->U3 (zh CC O47))(x:I47.ty CC):U3 (zh CC O47):=we ⟨d⟩ [zta h] lpO prog f46 1 I47 O47 H47 x
def zAU(h:I47.ty CC->U3 (zh CC O47)):Spec CC:=⟨46,1,I47,O47,zoU h⟩
theorem zAV{h:I47.ty CC->U3 (zh CC O47)}(a:Spec.OK prog (zta h)):Spec.OK prog (zAU h):=yK (zy a yL) ZG ZF H47 jO jO jO λx=>rfl
def zli:Nat->I47.ty CC->U3 (zh CC O47)
 |0=>λ_=>q
 |k+1=>zoU (zli k)
theorem zyi:∀k,Spec.OK prog (zta (zli k))
 |0=>⟨f46,jO,jO,jO,λx r h=>by cases h⟩
 |k+1=>zAV (zyi k)
def F47(x:I47.ty CC):U3 (zh CC O47):=zli 100000 x
def P47:Spec CC:=⟨46,1,I47,O47,F47⟩
theorem K47:Spec.OK prog P47:=zyi 100000
instance:Ok P47:=⟨K47⟩
def I48:Sig:=⟨[(0,.pc 0 0),(1,.pc 1 0),(2,.pc 2 0),(3,.ifc 135 (.agg [ii,ii]))],G0⟩
def O48:List (XK×Sig):=[(.ret,⟨[],[c1,c11,c11,.row 89]⟩)]
def H48:Nat->U3 Hint:=hfind [(5,.draw (od [1,3,5,7,9,10,12,14]) [])]
def F48(x:I48.ty CC):U3 (zh CC O48):=zb7 ⟨d⟩ [] lpO prog f40 0 I48 O48 H48 x
def P48:Spec CC:=⟨40,0,I48,O48,F48⟩
theorem K48:Spec.OKD prog P48:=Vo yL ZG ZF H48 jO jO jO λx=>rfl
def I49:Sig:=⟨KW,G0⟩
def O49:List (XK×Sig):=[(.ret,⟨[],G0⟩)]
def H49:Nat->U3 Hint:=hfind []
def F49(x:I49.ty CC):U3 (zh CC O49):=zb7 ⟨d⟩ [] lpO prog f40 0 I49 O49 H49 x
def P49:Spec CC:=⟨40,0,I49,O49,F49⟩
theorem K49:Spec.OKD prog P49:=Vo yL ZG ZF H49 jO jO jO λx=>rfl
def I50:Sig:=JZ
def O50:List (XK×Sig):=[(.ret,⟨[(0,.val 89),(1,ii),(2,ii)],[]⟩)]
def H50:Nat->U3 Hint:=hfind [(9,.draw (od [1,3,5,6,8,10]) []),(13,.loop ⟨[(2,.pc 0 0),(3,.pc 1 0),(4,.pc 2 0),(5,.sl 142),(19,.clo 40 [.pc 0 0,.pc 1 0,.pc 2 0])],[c1,c11,c11]⟩ []),(18,.loop ⟨[(2,.pc 0 0),(3,.pc 1 0),(4,.pc 2 0),(6,.pc 3 0)],[c9,c11,c11,c2,.row 89]⟩ [(.pan (.ifc 135 (.agg [ii,ii])),Hl),(.exit 0,Hl)]),(25,.cut Jp),(33,.draw (od [1,3,5,7,11,13,8,14,17,21,9366,22,18]) Jp),(38,.draw (od [1,3,5,7,11,13,8,14,17,21,9366,22,18]) Jp)]
def F50(x:I50.ty CC):U3 (zh CC O50):=zhK ⟨d⟩ [P15,P16,P18,P41,P22,P46,P47] (P49) (P48) lpO prog f17 3 I50 O50 H50 x
def P50:Spec CC:=⟨17,3,I50,O50,F50⟩
theorem K50:Spec.OK prog P50:=zhL Oks.o K49 K48 ZG ZF H50 jO jO jO λx=>rfl
instance:Ok P50:=⟨K50⟩
def P51:=spA d [] 118 2 f118 Kh [(.ret,⟨[(0,.row 0),(1,.row 1)],[.row 89,.row 89]⟩)] (hfind [(6,.loop Kd [(.exit 0,⟨[(2,.row 0),(3,.row 1)],[.row 89,.row 89]⟩)]),(22,.cut [(.normal,Kd)]),(26,.cut [(.normal,Kd)])])
instance:Ok P51:=kA
def P52:=spA d [] 149 1 f149 ⟨[(0,.val 189),(1,.pc 0 0)],[c23]⟩ K6 (hfind [])
instance:Ok P52:=kA
def P53:=spA d [P52] 148 1 f148 ⟨[(0,.sl 189),(1,.clo 149 [.pc 0 0])],[c23]⟩ Hf (hfind [(6,.loop ⟨[(0,.sl 189),(1,.clo 149 [.pc 0 0]),(7,ii),(8,ii)],[c23]⟩ Kb)])
instance:Ok P53:=kA
def P54:=spA d [P53] 104 1 f104 ⟨[(0,.sl 189),(1,.str)],[]⟩ Jx (hfind [])
instance:Ok P54:=kA
def P55:=spA d [] 119 0 f119 ⟨[(0,.bool),(1,.val 89),(2,ii)],[]⟩ [J9,(.ret,⟨[],[]⟩)] (hfind [])
instance:Ok P55:=kA
def P56:=spA d [] 164 1 f164 Gh K6 (hfind [])
instance:Ok P56:=kA
def P57:=spA d [P56] 165 1 f165 HF Hf (hfind [(6,.loop ⟨[(0,.sl 89),(1,.clo 164 [.pc 0 0]),(7,ii),(8,ii)],[c23]⟩ Kb)])
instance:Ok P57:=kA
def P58:=spA d [P57] 163 1 f163 HF K6 (hfind [])
instance:Ok P58:=kA
def P59:=spA d [P58] 120 1 f120 ⟨[(0,.sl 89),(1,.str)],[]⟩ Jn (hfind [])
instance:Ok P59:=kA
def P60:=spA d [] 166 1 f166 Gh K6 (hfind [(3,.cut [(.normal,⟨[(3,.bool)],[c23]⟩)])])
instance:Ok P60:=kA
def P61:=spA d [P60] 165 1 f165 ⟨[(0,.sl 89),(1,.clo 166 [.pc 0 0])],[c23]⟩ Hf (hfind [(6,.loop ⟨[(0,.sl 89),(1,.clo 166 [.pc 0 0]),(7,ii),(8,ii)],[c23]⟩ Kb)])
instance:Ok P61:=kA
def P62:=spA d [P61] 121 1 f121 ⟨[(0,.val 189),(1,.str),(2,.sl 89)],[]⟩ Jx (hfind [])
instance:Ok P62:=kA
def P63:=spA d [] 167 1 f167 ⟨[(0,.sl 9),(1,.str)],[]⟩ Jx (hfind [(6,.loop ⟨[(0,.sl 9),(1,.str),(7,ii),(8,ii)],[]⟩ KU)])
instance:Ok P63:=kA
def P64:=spA d [P63,P62,P55,P54] 122 0 f122 ⟨[(0,.sl 189),(1,.pc 0 0),(2,.val 89),(3,.sl 89),(4,.sl 89)],Hc⟩ [Jk,(.ret,⟨[],Hc⟩)] (hfind [(10,.cut [(.normal,⟨[(0,.sl 189),(1,.pc 0 0),(3,.sl 89),(4,.sl 89),(7,.pc 3 0),(20,ii),(21,.bool)],[c17,.row 251,.row 306,c6]⟩)]),(13,.cut [Jk,(.normal,⟨[],Hc⟩)]),(15,.draw (od [1,3,5,7,9,11,13,15,17,19,20,23,25,26]) []),(16,.draw (od [1,3,5,7,9,11,12]) []),(19,.cut [Jk,(.normal,⟨[],Hc⟩)]),(23,.draw (od [1,3,5,7,9,11,13,15,17,19,21,23,25,27,29,31,33,34]) [Jk,(.normal,⟨[(3,.sl 89),(4,.sl 89),(7,.pc 3 0)],[c17,.row 251,.row 306,c6]⟩)])])
instance:Ok P64:=kA
def P65:=spA d [] 168 1 f168 HE [(.ret,⟨[(0,.row 0)],[.row 306]⟩)] (hfind [(8,.cut HD),(14,.cut HD)])
instance:Ok P65:=kA
def P66:=spA d [P62,P55,P65] 123 0 f123 ⟨[(0,.pc 0 0),(1,.val 89),(2,.sl 89)],Hc⟩ [Jk,(.ret,⟨[],[.cell [.str,ii,ii,.row 1,.row 3],.row 251,.gone,.row 306]⟩)] (hfind [(8,.loop JC [Jk,(.exit 0,⟨[(0,.pc 0 0),(4,.pc 3 0),(6,.pc 4 0)],GO⟩)]),(16,.cut [(.normal,JC),Jk]),(26,.draw (od [1,3,5,7,9,11,12,15]) []),(28,.draw (od [1,3,5,7,9,11,13,15,17,19,21,23,25,27,29,31,33,35,37,39,41,43,45,47,49,51,52]) [Jk,(.normal,⟨[(0,.pc 0 0),(2,.sl 89),(4,.pc 3 0),(6,.pc 4 0),(7,ii),(9,ii),(11,.sl 89),(12,ii),(13,ii)],GO⟩)]),(29,.cut [(.normal,JC)]),(31,.draw (od [1,3,5,7,9,11,13,15,17,19,21,23,25,27,29,31,33,35,37,39,41,42,44,47,49,50]) [])])
instance:Ok P66:=kA
def P67:=spA j [P51,P54,P55,P59,P62,P64,P66] 72 1 f72 ⟨[(0,.sl 189),(1,.val 89)],[]⟩ [J9,(.ret,⟨[(0,.agg [.str,ii,ii,.row 0,.row 1])],[.row 251,.row 306]⟩)] (hfind [(7,.draw (od [1,3,5,11,6,9,12]) []),(14,.loop Ki [J9,(.exit 0,⟨[(0,.sl 189),(3,.pc 0 0),(4,.pc 1 0),(5,.sl 89),(6,.row 2),(7,.pc 3 0)],[c6,c10,.row 89,c58,.row 251]⟩)]),(22,.cut [J9,(.normal,Ki)]),(26,.draw (od [1,3,5,7,9,15,10,13,16]) []),(32,.cut [J9,(.normal,JS)]),(34,.draw (od [1,3,5,7,9,11,13,14,17]) []),(35,.draw (od [1,3,5,7,9,11,13,15,17,19,21,22]) [J9,(.normal,JS)]),(45,.loop ⟨[(4,.pc 0 0),(5,.sl 89),(7,.pc 1 0),(91,.sl 89),(92,ii),(93,ii)],[c10,c36,.row 251,.row 306]⟩ [J9,(.exit 2,⟨[(4,.pc 0 0),(7,.pc 1 0)],[c10,c36,.row 251,.row 306]⟩)])])
instance:Ok P67:=kA
def I68:Sig:=⟨[(0,.pc 0 0),(1,.pc 1 0),(2,.pc 2 0),(3,.ifc 203 (.agg [ii,ii]))],Gv⟩
def O68:List (XK×Sig):=[(.ret,⟨[],[c32,c11,c11,.row 189]⟩)]
def H68:Nat->U3 Hint:=hfind [(5,.draw (od [1,3,5,7,8,10,12]) [])]
def F68(x:I68.ty CC):U3 (zh CC O68):=zb7 ⟨d⟩ [] lpO prog f71 0 I68 O68 H68 x
def P68:Spec CC:=⟨71,0,I68,O68,F68⟩
theorem K68:Spec.OKD prog P68:=Vo yL ZG ZF H68 jO jO jO λx=>rfl
def I69:Sig:=⟨KW,Gv⟩
def O69:List (XK×Sig):=[(.ret,⟨[],Gv⟩)]
def H69:Nat->U3 Hint:=hfind []
def F69(x:I69.ty CC):U3 (zh CC O69):=zb7 ⟨d⟩ [] lpO prog f71 0 I69 O69 H69 x
def P69:Spec CC:=⟨71,0,I69,O69,F69⟩
theorem K69:Spec.OKD prog P69:=Vo yL ZG ZF H69 jO jO jO λx=>rfl
def I70:Sig:=Kh
def O70:List (XK×Sig):=[(.ret,⟨Kr,[.row 189]⟩)]
def H70:Nat->U3 Hint:=hfind [(3,.loop ⟨[(1,.pc 0 0),(2,.pc 1 0),(3,.pc 2 0),(4,.pc 3 0),(7,.clo 71 [.pc 1 0,.pc 2 0,.pc 3 0])],[c6,c32,c11,c11]⟩ []),(8,.loop JM [(.pan (.ifc 203 (.agg [ii,ii])),JJ),(.exit 0,JJ)]),(21,.cut Ge),(22,.draw (od [3,5,8198,8200,8,0,10,12,6,8,10,12]) Ge)]
def F70(x:I70.ty CC):U3 (zh CC O70):=zhK ⟨d⟩ [P67] (P69) (P68) lpO prog f35 3 I70 O70 H70 x
def P70:Spec CC:=⟨35,3,I70,O70,F70⟩
theorem K70:Spec.OK prog P70:=zhL Oks.o K69 K68 ZG ZF H70 jO jO jO λx=>rfl
instance:Ok P70:=⟨K70⟩
def P71:=spA d [P63,P54] 124 2 f124 Hn [(.ret,⟨[(0,.val 112),(1,ii)],[]⟩)] (hfind [(7,.cut [(.ret,⟨[(4,.pc 0 0),(5,ii)],[c8]⟩),(.normal,⟨Gk,[c8,c8]⟩)])])
instance:Ok P71:=kA
def P72:=spA d [] 126 1 f126 ⟨Gf,[c8]⟩ [(.ret,GJ)] (hfind [])
instance:Ok P72:=kA
def P73:=spA d [P72] 63 1 f63 H4 [(.ret,G1)] (hfind [(6,.loop ⟨[(0,.row 0),(1,.clo 126 [.pc 1 0]),(7,ii),(8,ii)],[.row 112,c8]⟩ Hw)])
instance:Ok P73:=kA
def P74:=spA d [P73] 125 1 f125 H4 [(.ret,Gu)] (hfind [])
instance:Ok P74:=kA
def P75:=spA d [] 127 1 f127 ⟨[(0,.val 112),(1,.sl 189)],[]⟩ Jn (hfind [(3,.cut Jb)])
instance:Ok P75:=kA
def P76:=spA d [] 128 1 f128 ⟨Gf,[c8]⟩ [(.ret,GJ)] (hfind [(3,.cut [(.normal,⟨[(3,.bool)],[c8]⟩)])])
instance:Ok P76:=kA
def P77:=spA d [P76] 63 1 f63 H3 [(.ret,G1)] (hfind [(6,.loop ⟨[(0,.row 0),(1,.clo 128 [.pc 1 0]),(7,ii),(8,ii)],[.row 112,c8]⟩ Hw)])
instance:Ok P77:=kA
def P78:=spA d [P77] 125 1 f125 H3 [(.ret,Gu)] (hfind [])
instance:Ok P78:=kA
def P79:=spA d [P71,P74,P75,P78] 73 3 f73 Hn [(.ret,⟨[(0,.val 192),(1,ii),(2,ii)],[]⟩)] (hfind [(11,.draw (od [1,3,5,6,9,11]) []),(18,.loop ⟨[(1,.sl 189),(2,.pc 0 0),(4,.pc 1 0),(7,.pc 2 0),(8,ii),(29,.sl 89),(30,ii),(31,ii)],[c6,c18,c40,.row 112]⟩ [J5,(.exit 0,⟨[(1,.sl 189),(2,.pc 0 0),(4,.pc 1 0),(7,.pc 2 0),(8,ii)],[c6,c18,c40,.row 112]⟩)]),(37,.cut [J5,(.normal,Kt)]),(39,.draw (od [1,3,5,6,9,11]) []),(43,.cut [J5,(.normal,Kt)]),(45,.draw (od [1,3,5,7,9,11,13,14,17,19]) []),(48,.cut [(.normal,⟨[(1,.sl 189),(2,.pc 0 0),(4,.pc 1 0),(7,.pc 2 0),(8,ii),(10,.pc 3 0),(11,.pc 4 0),(29,.sl 89),(30,ii),(31,ii),(65,.bool)],[c6,c18,c53,c6,c8,.row 112]⟩)]),(51,.draw (od [1,3,5,7,9,11,12,15,17]) []),(65,.draw (od [1,3,5,7,9,11,13,15,16,19,21]) [])])
instance:Ok P79:=kA
def P80:=spA d [P79] 36 3 f36 Hn [(.ret,⟨Kr,[.row 192]⟩)] (hfind [(8,.loop Hg [K8,(.exit 0,⟨[(7,.row 0)],[.row 192]⟩)]),(16,.cut [(.normal,Hg),K8])])
instance:Ok P80:=kA
def P81:=spA d [] 141 1 f141 KD Jn (hfind [(3,.cut K7)])
instance:Ok P81:=kA
def P82:=spA d [] 142 1 f142 KD Jn (hfind [(3,.cut K7)])
instance:Ok P82:=kA
def P83:=spA d [] 143 1 f143 JZ Jn (hfind [(9,.cut Jb),(13,.cut Jb),(17,.cut Jb),(21,.cut Jb),(25,.cut Jb),(29,.cut Jb),(33,.cut Jb),(37,.cut Jb),(41,.cut Jb),(45,.cut Jb),(49,.cut Jb),(53,.cut Jb),(57,.cut Jb),(61,.cut Jb),(65,.cut Jb),(69,.cut Jb),(73,.cut Jb),(77,.cut Jb),(81,.cut Jb)])
instance:Ok P83:=kA
def P84:=spA d [] 144 1 f144 G7 Jx (hfind [(7,.cut [(.normal,⟨[(0,.str),(1,ii),(5,.str)],[]⟩)]),(12,.cut [(.normal,⟨[(0,.str),(1,ii),(25,.bool)],[]⟩)]),(25,.cut Js),(29,.cut Js),(33,.cut Js),(37,.cut Js),(41,.cut Js),(45,.cut Js),(49,.cut Js),(53,.cut Js),(57,.cut Js),(61,.cut Js),(65,.cut Js),(69,.cut Js),(73,.cut Js)])
instance:Ok P84:=kA
def P85:=spA d [P81,P82,P83,P84] 94 2 f94 G7 [(.ret,⟨[(0,.val 155),(1,ii)],[]⟩)] (hfind [(13,.cut [(.ret,Gs),(.normal,⟨[(0,.str),(1,ii),(4,.pc 0 0),(6,.pc 1 0),(7,ii),(9,.bool)],[c21,c21]⟩)]),(16,.loop Ho [(.exit 0,Ho)]),(30,.cut [(.normal,⟨[(0,.str),(1,ii),(4,.pc 0 0),(6,.pc 1 0),(7,ii),(47,.bool)],[c21,c21]⟩)]),(52,.cut [(.normal,⟨Gk,[c21,c21]⟩)]),(62,.cut [(.ret,Gs),(.normal,⟨[(0,.str),(1,ii),(4,.pc 0 0),(6,.pc 1 0)],[c21,c21]⟩)]),(69,.loop J7 [(.exit 2,J7)]),(88,.cut [(.normal,J7)]),(94,.cut [(.normal,J7)]),(103,.cut [(.normal,⟨[(0,.str),(1,ii),(4,.pc 0 0),(6,.pc 1 0),(7,ii),(13,ii),(14,.bool),(16,.bool)],[c21,c21]⟩)]),(108,.cut [(.normal,⟨[(0,.str),(1,ii),(4,.pc 0 0),(6,.pc 1 0),(7,ii),(13,ii),(115,.bool)],[c21,c21]⟩)])])
instance:Ok P85:=kA
def P86:=spA d [P85] 47 3 f47 JZ [(.ret,⟨Kr,[.row 155]⟩)] (hfind [(16,.loop ⟨Kc,[.row 155]⟩ [JN,(.exit 0,⟨[(0,.str),(5,.row 0)],[.row 155]⟩)]),(23,.cut [(.normal,⟨Kc,[.row 155]⟩),JN]),(26,.cut [(.normal,⟨[(0,.str),(5,.row 0),(6,ii),(25,.bool)],[.row 155]⟩)]),(38,.loop ⟨Kc,[.row 155]⟩ [(.exit 2,⟨Kc,[.row 155]⟩)]),(41,.cut [(.normal,⟨[(0,.str),(5,.row 0),(6,ii),(41,.bool)],[.row 155]⟩)])])
instance:Ok P86:=kA
def P87:=spA d [] 95 1 f95 ⟨Kv,[c3,.row 155]⟩ [(.ret,Gt)] (hfind [(3,.draw (od [1,3,5,7,9,11,13,15,17,19,21,23]) []),(5,.draw (od [1,3,5,7,9,11,13,15,17,19,21,23,25,27,29,31,33,35,37,39,41,43,45,47,49,51,53,55,57]) [(.normal,⟨[(4,.bool)],[c3,.row 155]⟩)])])
instance:Ok P87:=kA
def P88:=spA d [P87] 48 1 f48 ⟨Kv,[c3,.row 155]⟩ [(.ret,Gt)] (hfind [(7,.cut [(.normal,⟨[(5,.bool)],[c3,.row 155]⟩)])])
instance:Ok P88:=kA
def P89:=spA d [] 98 0 f98 ⟨Ka,[c3,.row 155]⟩ [(.ret,Hv)] (hfind [(2,.cut [(.normal,Hv)]),(5,.draw (od [1,3,5,7,9,11,13,15,17,19,21,23,25,27,28]) [])])
instance:Ok P89:=kA
def P90:=spA d [P89] 96 1 f96 Jm [(.ret,⟨HC,[c3,.row 155]⟩)] (hfind [(3,.draw (od [1,3,5,7,9,11,13,15,17,19,20,22]) []),(6,.cut [(.normal,⟨[(0,.pc 0 0),(2,.pc 2 0),(3,.pc 3 0),(23,.bool)],[c3,.row 155,c1,c21]⟩)])])
instance:Ok P90:=kA
def P91:=spA d [P88,P89] 50 0 f50 ⟨Kv,[c3,.row 155]⟩ [(.ret,Hv)] (hfind [(4,.cut [(.normal,Hv)])])
instance:Ok P91:=kA
def P92:=spA d [P88,P91,P90] 97 1 f97 Jm JY (hfind [(3,.draw (od [1,3,5,7,9,11,13,15,17,19,21,23,25,27,29,31,33,35,37,39,41,43,45,46,48]) []),(19,.cut G9),(26,.cut G9)])
instance:Ok P92:=kA
def P93:=spA d [P89] 182 1 f182 Jm [(.ret,⟨[(0,ii)],[c3,.row 155]⟩)] (hfind [(3,.draw (od [1,3,5,7,9,11,13,15,17,19,20,22]) []),(6,.cut [(.normal,⟨[(0,.pc 0 0),(3,.pc 2 0),(23,.bool)],[c3,.row 155,c21]⟩)])])
instance:Ok P93:=kA
def P94:=spA d [P88,P93] 185 1 f185 ⟨[(0,.pc 0 0),(1,.val 93)],[c3,.row 155]⟩ JY (hfind [(19,.cut [(.normal,⟨[(3,.pc 2 0),(4,.pc 3 0)],[c3,.row 155,c7,c1]⟩)])])
instance:Ok P94:=kA
def P95:=spA d [P93,P88,P90,P94] 146 1 f146 Jm JY (hfind [(3,.draw (od [1,3,5,7,9,11,13,15,17,19,21,23]) []),(6,.draw (od [1,3,5,7,9,11,13,15,17,19,21,23]) [])])
instance:Ok P95:=kA
def P96:=spA d [P88,P89] 147 1 f147 Jm [(.ret,⟨[(0,.str)],[c3,.row 155]⟩)] (hfind [(8,.loop ⟨[(0,.pc 0 0),(3,.row 2),(4,ii)],[c3,.row 155,.row 9]⟩ [(.ret,⟨[(2,.str)],[c3,.row 155]⟩),(.exit 0,Jm)])])
instance:Ok P96:=kA
def P97:=spA d [P95,P96] 102 1 f102 Jm Jg (hfind [])
instance:Ok P97:=kA
def P98:=spA d [P91,P88,P95] 183 1 f183 Jm [(.ret,⟨[(0,.row 2)],[c3,.row 155,.row 93]⟩)] (hfind [(8,.cut [(.normal,⟨[(0,.pc 0 0),(18,.bool)],[c3,.row 155]⟩)]),(20,.loop ⟨[(0,.pc 0 0),(4,.pc 2 0),(5,.row 3)],[c3,.row 155,c7,.row 93]⟩ [(.exit 0,⟨[(0,.pc 0 0),(5,.row 2)],[c3,.row 155,.row 93]⟩)])])
instance:Ok P98:=kA
def P99:=spA d [P88,P93,P90,P95,P87,P98,P91,P94] 195 1 f195 Jm JY (hfind [(3,.draw (od [1,3,5,7,9,11,13,15,17,19,21,23,24,26]) []),(47,.cut G9),(60,.draw (od [1,3,5,7,9,11,13,15,17,19,21,23]) []),(106,.draw (od [1,3,5,7,9,11,13,15,17,19,21,23,25,27,29,31,33,35,37]) [(.normal,⟨[(0,.pc 0 0),(2,.pc 2 0),(3,.pc 3 0),(14,.bool),(119,.bool)],GB⟩)]),(117,.cut [(.normal,⟨[(2,.pc 2 0),(16,.pc 3 0)],Jz⟩)])])
instance:Ok P99:=kA
def zlj:=spA d [P90,P87,P98,P88,P95,P91,P99] 184 1 f184 Jm Jg (hfind [])
instance:Ok zlj:=kA
def zlk:Sig:=⟨KM,[c3,.row 155]⟩
def zll:List (XK×Sig):=Jg
def zyj:Nat->U3 Hint:=hfind []
def zlm:Sig:=Jm
def zln:List (XK×Sig):=Jg
def zyk:Nat->U3 Hint:=hfind [(3,.draw (od [1,3,5,7,9,11,13,15,17,19,21,23]) []),(8,.draw (od [1,3,5,7,9,11,13,15,17,19,21,23]) []),(9,.cut [(.normal,⟨[(0,.pc 0 0),(2,.pc 2 0),(3,ii),(4,.str)],[c3,.row 155,c1]⟩)]),(10,.draw (od [1,3,5,7,9,11,13,15,17,19,21,23]) []),(20,.cut [(.ret,HM),Jh]),(32,.cut [(.normal,⟨[(2,.pc 2 0),(5,.pc 3 0),(6,.pc 4 0)],[c3,.row 155,c1,c60,.cell [ii,.str,ii,ii,.row 6],.row 93,.row 93]⟩)]),(50,.cut [Jh]),(61,.cut [(.normal,⟨[(0,.pc 0 0),(2,.pc 2 0),(4,.str),(5,.pc 3 0),(49,.str),(108,.bool)],GB⟩)]),(64,.cut [Jh]),(74,.cut [(.normal,⟨[(0,.pc 0 0),(2,.pc 2 0),(5,.pc 3 0),(9,.pc 4 0)],[c3,.row 155,c1,c1,c1]⟩)]),(86,.cut [Jh]),(95,.cut [Jh]),(102,.cut [Jh]),(108,.cut [Jh])]
def XH:Sig:=Jm
def XI:List (XK×Sig):=Jg
def zyl:Nat->U3 Hint:=hfind [(3,.draw (od [1,3,5,7,9,11,13,15,17,19,21,23,24,26]) []),(8,.cut [(.normal,⟨[(0,.pc 0 0),(2,.pc 2 0),(3,.pc 3 0),(28,.bool)],GB⟩)]),(9,.cut G9),(18,.loop HJ [(.exit 0,HJ)])]
def zem(h:XH.ty CC->U3 (zh CC XI)):Spec CC:=⟨99,1,XH,XI,h⟩
def zgz(h:XH.ty CC->U3 (zh CC XI))(x:zlk.ty CC):U3 (zh CC zll):=we ⟨d⟩ [P97,zem h] lpO prog f181 1 zlk zll zyj x
def zvc(h:XH.ty CC->U3 (zh CC XI)):Spec CC:=⟨181,1,zlk,zll,zgz h⟩
theorem zvd{h:XH.ty CC->U3 (zh CC XI)}(a:Spec.OK prog (zem h)):Spec.OK prog (zvc h):=yK (zy (okP P97) (zy a yL)) ZG ZF zyj jO jO jO λx=>rfl
def zgA(h:XH.ty CC->U3 (zh CC XI))(x:zlm.ty CC):U3 (zh CC zln):=we ⟨d⟩ [zvc h,P88,zem h,P90,P91,P93,P87,P95,P98,zlj] lpO prog f145 1 zlm zln zyk x
def zve(h:XH.ty CC->U3 (zh CC XI)):Spec CC:=⟨145,1,zlm,zln,zgA h⟩
theorem zvf{h:XH.ty CC->U3 (zh CC XI)}(a:Spec.OK prog (zem h)):Spec.OK prog (zve h):=yK (zy (zvd a) (zy (okP P88) (zy a (zy (okP P90) (zy (okP P91) (zy (okP P93) (zy (okP P87) (zy (okP P95) (zy (okP P98) (zy (okP zlj) yL)))))))))) ZG ZF zyk jO jO jO λx=>rfl
def zjf(h:XH.ty CC->U3 (zh CC XI))(x:XH.ty CC):U3 (zh CC XI):=we ⟨d⟩ [P87,P89,P91,P88,zve h] lpO prog f99 1 XH XI zyl x
def zAg(h:XH.ty CC->U3 (zh CC XI)):Spec CC:=⟨99,1,XH,XI,zjf h⟩
theorem zAh{h:XH.ty CC->U3 (zh CC XI)}(a:Spec.OK prog (zem h)):Spec.OK prog (zAg h):=yK (zy (okP P87) (zy (okP P89) (zy (okP P91) (zy (okP P88) (zy (zvf a) yL))))) ZG ZF zyl jO jO jO λx=>rfl
def zcg:Nat->XH.ty CC->U3 (zh CC XI)
 |0=>λ_=>q
 |k+1=>zjf (zcg k)
theorem zjg:∀k,Spec.OK prog (zem (zcg k))
 |0=>⟨f99,jO,jO,jO,λx r h=>by cases h⟩
 |k+1=>zAh (zjg k)
def zAW(x:zlk.ty CC):U3 (zh CC zll):=zgz (zcg 100000) x
def zym:Spec CC:=⟨181,1,zlk,zll,zAW⟩
theorem zAX:Spec.OK prog zym:=zvd (zjg 100000)
instance:Ok zym:=⟨zAX⟩
def zAY(x:zlm.ty CC):U3 (zh CC zln):=zgA (zcg 100000) x
def zyn:Spec CC:=⟨145,1,zlm,zln,zAY⟩
theorem zAZ:Spec.OK prog zyn:=zvf (zjg 100000)
instance:Ok zyn:=⟨zAZ⟩
def zyo(x:XH.ty CC):U3 (zh CC XI):=zcg 100000 x
def ztb:Spec CC:=⟨99,1,XH,XI,zyo⟩
theorem zA0:Spec.OK prog ztb:=zjg 100000
instance:Ok ztb:=⟨zA0⟩
def ztc:=spA d [P90,P91,P88,P92,P87,P89,ztb] 49 1 f49 ⟨Ka,[c3,.row 155]⟩ Jg (hfind [(14,.loop H0 [(.exit 0,KL)]),(17,.cut [(.normal,⟨[(0,.pc 0 0),(4,.pc 2 0),(5,.pc 3 0),(6,.bool),(31,.bool)],Jz⟩)]),(38,.cut [(.normal,H0)]),(44,.draw (od [1,3,5,7,9,11,13,15,17,19,21,23,24,26]) []),(50,.cut [(.normal,⟨Gd,[c3,.row 155,c1,c60,c7,.row 93]⟩)]),(56,.cut [(.normal,⟨Gd,[c3,.row 155,c1,c60,c1,.row 93]⟩)])])
instance:Ok ztc:=kA
def ztd:=spA d [P88,P90,P89] 100 1 f100 Jm JY (hfind [(3,.draw (od [1,3,5,7,9,11,13,15,17,19,21,23,25,27,29,31,33,35,37,39,41,43,45,46,48]) []),(30,.loop ⟨[(0,.pc 0 0),(2,.pc 2 0),(3,.pc 3 0),(6,.row 4),(7,ii)],[c3,.row 155,c1,c1,.row 9]⟩ [(.ret,HM),(.exit 0,J8)])])
instance:Ok ztd:=kA
def zte:=spA d [P90,P88,P91] 101 1 f101 Jm Jg (hfind [(11,.cut [(.normal,⟨[(2,.pc 2 0),(3,.pc 3 0)],Jz⟩)])])
instance:Ok zte:=kA
def ztf:=spA d [P90,ztd,P88,zte,P91,P97] 51 1 f51 ⟨Ka,[c3,.row 155]⟩ Jg (hfind [(16,.loop Hz [(.exit 0,KL)]),(32,.cut [(.normal,Hz)]),(39,.loop ⟨[(0,.pc 0 0),(4,.pc 2 0),(5,.pc 3 0),(9,.bool)],Jz⟩ [(.exit 2,KL)])])
instance:Ok ztf:=kA
def VP:Sig:=KG
def VQ:List (XK×Sig):=Jx
def zyp:Nat->U3 Hint:=hfind [(8,.loop ⟨[(1,.pc 0 0),(3,ii),(4,ii)],[c7]⟩ GQ)]
def zoV(h:VP.ty CC->U3 (zh CC VQ)):Spec CC:=⟨52,1,VP,VQ,h⟩
def zjh(h:VP.ty CC->U3 (zh CC VQ))(x:VP.ty CC):U3 (zh CC VQ):=we ⟨d⟩ [zoV h] lpO prog f52 1 VP VQ zyp x
def zAi(h:VP.ty CC->U3 (zh CC VQ)):Spec CC:=⟨52,1,VP,VQ,zjh h⟩
theorem zAj{h:VP.ty CC->U3 (zh CC VQ)}(a:Spec.OK prog (zoV h)):Spec.OK prog (zAi h):=yK (zy a yL) ZG ZF zyp jO jO jO λx=>rfl
def zgB:Nat->VP.ty CC->U3 (zh CC VQ)
 |0=>λ_=>q
 |k+1=>zjh (zgB k)
theorem zvg:∀k,Spec.OK prog (zoV (zgB k))
 |0=>⟨f52,jO,jO,jO,λx r h=>by cases h⟩
 |k+1=>zAj (zvg k)
def zyq(x:VP.ty CC):U3 (zh CC VQ):=zgB 100000 x
def ztg:Spec CC:=⟨52,1,VP,VQ,zyq⟩
theorem zA1:Spec.OK prog ztg:=zvg 100000
instance:Ok ztg:=⟨zA1⟩
def zoW:=spA d [P86,P88,ztc,P91,ztf,ztg] 18 3 f18 JZ [(.ret,⟨[(0,.val 93),(1,ii),(2,ii)],[]⟩)] (hfind [(18,.loop JF [(.exit 0,JF)]),(21,.draw (od [1,3,5,7,9,11,13,15,17,19,21,23,25,27,29,31,33,35,37]) [(.normal,⟨[(2,.pc 0 0),(8,.pc 1 0),(9,.pc 2 0),(48,.bool)],[c1,c49,c9,.row 155,.row 93]⟩)]),(25,.cut [(.normal,JF)]),(27,.draw (od [1,3,5,7,9,11,13,15,17,19,21,23]) []),(44,.cut [(.normal,JF)]),(54,.draw (od [1,3,5,7,9,11,13,15,17,18,21,23]) [])])
instance:Ok zoW:=kA
def zoX:=spA d [] 129 1 f129 Gz [(.ret,⟨[(0,.row 0)],[.row 93]⟩)] (hfind [(8,.loop ⟨Kk,[c7,.row 93]⟩ [(.exit 0,⟨[(5,.row 0)],[.row 93]⟩)]),(19,.cut [(.normal,⟨Kk,[c7,.row 93]⟩)])])
instance:Ok zoX:=kA
def zhT:=spA d [] 112 1 f112 ⟨[(0,.sl 211),(1,.str)],[]⟩ Jx (hfind [(6,.loop ⟨[(0,.sl 211),(1,.str),(5,ii)],[]⟩ KU)])
instance:Ok zhT:=kA
def zoY:=spA d [] 130 1 f130 ⟨[(0,.sl 93),(1,.str)],[]⟩ Jx (hfind [(6,.loop ⟨[(0,.sl 93),(1,.str),(5,ii)],[]⟩ KU),(16,.cut [(.normal,⟨[(0,.sl 93),(1,.str),(5,ii),(27,.bool)],[]⟩)])])
instance:Ok zoY:=kA
def zoZ:=spA d [] 131 1 f131 HE [(.ret,⟨[(0,.row 0)],[.row 264]⟩)] (hfind [(7,.cut Hi),(12,.cut [(.normal,⟨[(0,.str),(1,ii),(2,ii),(3,ii),(4,ii),(11,.row 0),(29,.bool)],[.row 264]⟩)]),(13,.cut Hi),(19,.cut [(.normal,⟨[(11,.row 0)],[.row 264]⟩)])])
instance:Ok zoZ:=kA
def zth:=spA d [zoX,zhT,zoY,zoZ] 74 3 f74 ⟨[(0,.row 0),(1,.val 93)],[.row 211]⟩ [(.ret,⟨[(0,.val 211),(1,ii),(2,ii)],[.row 211]⟩)] (hfind [(17,.draw (od [1,3,5,6,9,11]) []),(25,.draw (od [1,3,5,6,9,11]) []),(32,.loop KQ [Jr,(.exit 0,⟨[(0,.row 0),(4,.pc 1 0),(7,.row 2),(8,.row 3),(9,.pc 4 0),(10,.pc 5 0)],JG⟩)]),(40,.cut [Jr,(.normal,KQ)]),(47,.loop ⟨[(0,.row 0),(4,.pc 1 0),(7,.row 2),(8,.row 3),(9,.pc 4 0),(10,.pc 5 0),(12,ii),(13,.pc 6 0),(14,ii)],Kq⟩ [Jr,(.exit 2,⟨[(0,.row 0),(4,.pc 1 0),(7,.row 2),(8,.row 3),(9,.pc 4 0),(10,.pc 5 0),(12,ii),(13,.pc 6 0)],Kq⟩)]),(57,.draw (od [1,3,5,7,9,11,13,15]) []),(60,.draw (od [1,3,5,6,9,11]) []),(69,.cut [Jr,(.normal,⟨[(0,.row 0),(4,.pc 1 0),(7,.row 2),(8,.row 3),(9,.pc 4 0),(10,.pc 5 0),(12,ii),(13,.pc 6 0),(15,ii)],Kq⟩)]),(73,.cut [(.normal,⟨[(0,.row 0),(4,.pc 1 0),(7,.row 2),(8,.row 3),(9,.pc 4 0),(10,.pc 5 0),(12,ii),(13,.pc 6 0),(15,ii),(93,.bool)],Kq⟩)]),(76,.draw (od [1,3,5,6,9,11]) []),(90,.cut [JD,Jr]),(95,.cut [(.normal,⟨[(0,.row 0),(4,.pc 1 0),(7,.row 2),(8,.row 3),(9,.pc 4 0),(10,.pc 5 0),(16,ii),(107,.str),(111,.bool)],JG⟩)]),(98,.cut [Jr,JD]),(104,.cut [(.normal,⟨[(4,.pc 1 0),(7,.row 2),(8,.row 3),(9,.pc 4 0),(10,.pc 5 0)],JG⟩)]),(114,.draw (od [1,3,5,6,9,11]) []),(120,.cut [Jr,JD]),(130,.draw (od [1,3,5,6,9,11]) []),(138,.draw (od [1,3,5,6,9,11]) []),(142,.cut [(.normal,⟨[(4,.pc 1 0),(7,.row 2),(8,.row 3),(9,.pc 4 0),(10,.pc 5 0),(16,ii),(167,.bool)],JG⟩)]),(145,.draw (od [1,3,5,6,9,11]) []),(153,.loop JW [Kl,(.exit 5,⟨[(4,.pc 1 0),(10,.pc 2 0)],[.row 211,c10,.cell [.str,ii,ii,.row 3,.row 4],.row 261,.row 264]⟩)]),(168,.loop KH [Kl,(.exit 7,⟨[(4,.pc 1 0),(7,.row 2),(8,.row 3),(10,.pc 4 0),(16,ii),(17,ii),(18,.row 5)],JQ⟩)]),(176,.cut [(.normal,KH),Kl]),(189,.cut [(.normal,⟨[(4,.pc 1 0),(7,.row 2),(8,.row 3),(10,.pc 4 0),(16,ii),(17,ii),(18,.row 5),(19,ii),(21,ii),(202,.bool)],JQ⟩)]),(192,.draw (od [1,3,5,7,9,11,12,15,17]) []),(198,.draw (od [1,3,5,7,9,11,13,15,17,19,21,23,25,27,29,31,33,35,37,39,41,43,45,47,49,51,53,54,57]) []),(202,.loop ⟨[(4,.pc 1 0),(7,.row 2),(8,.row 3),(10,.pc 4 0),(16,ii),(17,ii),(22,.row 5),(23,ii)],[.row 211,c10,.row 93,.row 93,c37,.row 264,.row 261,.row 264]⟩ [(.exit 9,JW)]),(211,.draw (od [1,3,5,7,9,11,12,14,17,18]) [])])
instance:Ok zth:=kA
def zti:=spA d [zth] 37 3 f37 KG [(.ret,⟨Kr,[.row 211]⟩)] (hfind [(8,.loop HB [JN,(.exit 0,⟨[(5,.row 0)],[.row 211]⟩)]),(16,.cut [(.normal,HB),JN])])
instance:Ok zti:=kA
def ztj:=spA d [zhT] 132 2 f132 Hm [(.ret,⟨[(0,.val 215),(1,.bool)],[]⟩)] (hfind [(10,.cut JB),(14,.cut JB),(18,.cut JB),(22,.cut JB),(28,.cut [(.ret,⟨[(4,.pc 0 0),(5,.bool)],[c13]⟩),(.normal,⟨Gk,[c13,c13]⟩)])])
instance:Ok ztj:=kA
def ztk:=spA d [ztj] 75 3 f75 Hm [(.ret,⟨[(0,.val 217),(1,ii),(2,ii)],[]⟩)] (hfind [(11,.draw (od [1,3,5,6,9,11]) []),(18,.loop KI [J5,(.exit 0,⟨[(1,.sl 211),(2,.pc 0 0),(4,.pc 1 0),(7,.pc 2 0),(8,ii)],[c7,c18,c40,.row 215]⟩)]),(26,.cut [J5,(.normal,KI)]),(33,.loop ⟨[(1,.sl 211),(2,.pc 0 0),(4,.pc 1 0),(7,.pc 2 0),(8,ii),(9,ii),(10,.pc 3 0),(11,ii)],[c7,c18,c52,c7,.row 215]⟩ [J5,(.exit 2,⟨[(1,.sl 211),(2,.pc 0 0),(4,.pc 1 0),(7,.pc 2 0),(8,ii),(9,ii),(10,.pc 3 0)],[c7,c18,c52,c7,.row 215]⟩)]),(43,.draw (od [1,3,5,7,9,11,13,15,17]) []),(46,.draw (od [1,3,5,6,9,11]) []),(57,.draw (od [1,3,5,7,9,11,12,15,17]) []),(64,.loop ⟨[(1,.sl 211),(2,.pc 0 0),(4,.pc 1 0),(7,.pc 2 0),(8,ii),(9,ii),(10,.pc 3 0),(12,.pc 4 0),(14,ii)],HQ⟩ [J5,(.exit 4,⟨[(1,.sl 211),(2,.pc 0 0),(4,.pc 1 0),(7,.pc 2 0),(8,ii),(9,ii),(10,.pc 3 0),(12,.pc 4 0)],HQ⟩)]),(76,.cut [(.normal,⟨[(1,.sl 211),(2,.pc 0 0),(4,.pc 1 0),(7,.pc 2 0),(8,ii),(9,ii),(10,.pc 3 0),(12,.pc 4 0),(14,ii),(107,.bool)],HQ⟩)]),(79,.draw (od [1,3,5,7,9,11,12,15,17]) []),(94,.draw (od [1,3,5,7,9,11,13,14,17,19]) [])])
instance:Ok ztk:=kA
def ztl:=spA d [ztk] 38 3 f38 Hm [(.ret,⟨Kr,[.row 217]⟩)] (hfind [(8,.loop Hq [K8,(.exit 0,⟨[(7,.row 0)],[.row 217]⟩)]),(16,.cut [(.normal,Hq),K8])])
instance:Ok ztl:=kA
def ztm:=spA d [P50,P70,P80,zoW,zti,ztl] 16 2 f16 JZ [(.ret,⟨[(0,.val 53),(1,.bool)],[]⟩)] (hfind [(28,.loop JH [(.exit 0,⟨[(2,.pc 0 0),(9,ii),(10,.row 1),(12,ii),(19,.row 2),(22,.pc 3 0)],[c24,.row 192,.row 217,.cell [.row 4,.sl 189,.row 1,.row 5,.sl 211,.row 2],.row 89,.row 93]⟩)]),(41,.cut [(.normal,JH)]),(44,.draw (od [1,3,5,7,9,11,13,14,16,19,20]) []),(48,.draw (od [1,3,5,7,9,11,13,15,17,19,21,23,25,27,29,31,33,35,37,39,41,43,45,46,49]) [(.normal,⟨[(2,.pc 0 0),(3,.bool)],[.cell [.row 1,.sl 189,.row 2,.row 3,.sl 211,.row 4],.row 89,.row 192,.row 93,.row 217]⟩)])])
instance:Ok ztm:=kA
def zlo:=spA d [] 103 0 f103 ⟨[(0,.pc 0 0),(1,.bool),(2,ii)],Ga⟩ [Jv,(.ret,⟨[],Ga⟩)] (hfind [])
instance:Ok zlo:=kA
def zo0:=spA d [zlo] 54 0 f54 ⟨[(0,.pc 0 0),(1,.val 89),(2,.bool),(3,ii)],Ga⟩ [Jv,(.ret,⟨[],Ga⟩)] (hfind [])
instance:Ok zo0:=kA
def zo1:=spA d [] 64 1 f64 ⟨Gf,[c23]⟩ K6 (hfind [])
instance:Ok zo1:=kA
def ztn:=spA d [zo1] 63 1 f63 ⟨[(0,.sl 112),(1,.clo 64 [.pc 0 0])],[c23]⟩ Hf (hfind [(6,.loop ⟨[(0,.sl 112),(1,.clo 64 [.pc 0 0]),(7,ii),(8,ii)],[c23]⟩ Kb)])
instance:Ok ztn:=kA
def zch:=spA d [ztn] 28 1 f28 ⟨[(0,.val 33),(1,.str)],[]⟩ Jx (hfind [])
instance:Ok zch:=kA
def zto:=spA d [zo0,zch,P54,zlo] 55 1 f55 ⟨JP,Ga⟩ [Jv,(.ret,⟨[(0,.agg [.str,ii,.row 2])],[c16,.forow 33,.row 112]⟩)] (hfind [(12,.loop Ku [Jv,(.exit 0,⟨HL,[c16,.forow 33,c6,c26,c55,.row 112]⟩)]),(20,.cut [Jv,(.normal,Ku)]),(26,.draw (od [1,3,5,7,9,10,13,14]) []),(28,.cut [Jv,(.normal,⟨[(0,.pc 0 0),(3,.pc 2 0),(4,.pc 3 0),(5,ii),(6,.pc 4 0),(8,.pc 5 0),(9,.pc 6 0),(27,.sl 89),(28,ii),(29,ii)],[c16,.forow 33,c6,c26,c61,c6,c6,.row 112]⟩)]),(34,.cut [Jv,(.normal,⟨[(0,.pc 0 0),(3,.pc 2 0),(4,.pc 3 0),(5,ii),(6,.pc 4 0),(10,.pc 5 0),(27,.sl 89),(28,ii),(29,ii)],[c16,.forow 33,c6,c26,c65,c8,.row 112]⟩)]),(36,.draw (od [1,3,5,7,9,11,13,15,17,21,18,22,25,26]) []),(42,.draw (od [1,3,5,7,9,11,13,15,17,19,21,23,25,26]) [])])
instance:Ok zto:=kA
def Wt:=spA d [] 103 0 f103 ⟨[(0,.pc 0 0),(1,.bool),(2,ii)],J2⟩ [Jc,HA] (hfind [])
instance:Ok Wt:=kA
def zo2:=spA d [zch,Wt] 150 1 f150 ⟨Kv,J2⟩ [Jc,HG] (hfind [])
instance:Ok zo2:=kA
def zo3:=spA d [] 151 1 f151 ⟨[(0,.val 192),(1,.pc 0 0)],[c6]⟩ [(.ret,⟨[(0,.bool)],[c6]⟩)] (hfind [])
instance:Ok zo3:=kA
def ztp:=spA d [zo3] 65 1 f65 ⟨[(0,.sl 192),(1,.clo 151 [.pc 0 0])],[c6]⟩ [(.ret,⟨[(0,ii)],[c6]⟩)] (hfind [(6,.loop ⟨[(0,.sl 192),(1,.clo 151 [.pc 0 0]),(7,ii),(8,ii)],[c6]⟩ [(.ret,⟨[(4,ii)],[c6]⟩),(.exit 0,⟨[],[c6]⟩)])])
instance:Ok ztp:=kA
def zfF:=spA d [Wt,zo2] 110 0 f110 ⟨[(0,.pc 0 0),(1,.val 89),(2,.val 112)],J2⟩ [Jc,HA] (hfind [(15,.cut [Jc,HH]),(18,.cut [(.normal,⟨[(0,.pc 0 0),(4,.pc 2 0),(5,.pc 3 0),(6,.pc 4 0),(47,.bool)],Gq⟩)]),(19,.cut [Jc,HH]),(20,.cut [Jc,HH]),(21,.cut [Jc,HH])])
instance:Ok zfF:=kA
def ztq:=spA d [Wt,zfF] 109 0 f109 ⟨[(0,.pc 0 0),(1,.sl 89),(2,.sl 112)],J2⟩ [Jc,HA] (hfind [(5,.loop ⟨[(0,.pc 0 0),(2,.sl 112),(15,.sl 89),(16,ii),(17,ii)],J2⟩ [Jc,(.exit 0,⟨[],J2⟩)]),(16,.draw (od [1,3,5,7,9,11,12]) [])])
instance:Ok ztq:=kA
def zhU:=spA d [ztp,Wt,ztq] 107 1 f107 ⟨JP,J2⟩ [Jc,HG] (hfind [(7,.draw (od [1,3,5,7,9,11,13,15,17,19,21,22]) [])])
instance:Ok zhU:=kA
def zlp:=spA d [zo2,Wt,zhU] 106 1 f106 ⟨JP,J2⟩ [HG,Jc] (hfind [(10,.cut [K0,Jc,JI]),(22,.cut [Jc,(.normal,⟨[(4,.pc 2 0),(6,.pc 3 0)],G5⟩)]),(29,.cut [(.normal,⟨[(0,.pc 0 0),(3,.pc 2 0),(4,.pc 3 0),(5,.pc 4 0),(13,ii),(35,.bool)],Gq⟩)]),(32,.cut [Jc,K0,JI]),(34,.draw (od [1,3,5,7,9,11,15,17,19,21,23,25,12,26,28,30,32,34]) [Jc,(.normal,⟨[(0,.pc 0 0),(4,.pc 2 0),(5,.pc 3 0),(7,.pc 4 0),(8,.pc 5 0)],[c0,.forow 33,c8,c8,c8,c8]⟩)]),(36,.cut [Jc,(.normal,⟨[(4,.pc 2 0),(5,.pc 3 0)],G5⟩)]),(43,.cut [(.normal,⟨[(0,.pc 0 0),(3,.pc 2 0),(4,.pc 3 0),(5,.pc 4 0),(13,ii),(63,.bool)],Gq⟩)]),(46,.cut [Jc,K0,JI]),(56,.cut [(.normal,⟨[(4,.pc 2 0),(9,.pc 3 0)],G5⟩)]),(64,.cut [Jc,K0,JI])])
instance:Ok zlp:=kA
def zlq:=spA d [zch,Wt] 105 0 f105 ⟨[(0,.pc 0 0),(1,.str),(2,.val 112)],[c0,.orow 33]⟩ [JK,(.ret,HV)] (hfind [(11,.draw (od [1,3,5,7,9,11,13,15,17,19,21,23,25,26]) []),(14,.draw (od [1,3,5,7,9,11,13,15,17,19,21,23,24,26,29,31,32]) [])])
instance:Ok zlq:=kA
def zo4:=spA d [] 108 1 f108 ⟨[(0,.val 33),(1,.pz 89 0)],[]⟩ Jn (hfind [])
instance:Ok zo4:=kA
def zlr:=spA d [zo4] 67 1 f67 ⟨[(0,.row 0),(1,.clo 108 [.pc 1 0])],Gj⟩ [(.ret,⟨[(0,ii)],Gj⟩)] (hfind [(6,.loop ⟨[(0,.row 0),(1,.clo 108 [.pc 1 0]),(7,ii),(8,ii)],Gj⟩ [(.ret,⟨[(4,ii)],Gj⟩),(.exit 0,⟨[],Gj⟩)])])
instance:Ok zlr:=kA
def zls:=spA d [Wt,zfF] 109 0 f109 ⟨[(0,.pc 0 0),(1,.sl 89),(2,.nxp 1 33 112)],J2⟩ [Jc,HA] (hfind [(5,.loop ⟨[(0,.pc 0 0),(2,.nxp 1 33 112),(15,.sl 89),(16,ii),(17,ii)],J2⟩ [Jc,(.exit 0,⟨[],J2⟩)]),(16,.draw (od [1,3,5,7,9,11,12]) [])])
instance:Ok zls:=kA
def VS:Sig:=⟨[(0,.pc 0 0),(1,.sl 89)],J2⟩
def VT:List (XK×Sig):=[JK,(.ret,HV)]
def zyr:Nat->U3 Hint:=hfind [(5,.loop JX [JK,(.exit 0,HV)]),(23,.cut Jd),(24,.draw (od [1,3,5,7,9,11,13,15,16,18]) Jd),(27,.cut Jd),(31,.cut Jd),(36,.draw (od [1,3,5,7,9,11,13,15,17,19,21,23,25,27,29,31,33,35,37,39,40]) []),(40,.cut [(.normal,⟨[(0,.pc 0 0),(4,.pc 2 0),(6,.pc 3 0),(11,.sl 89),(12,ii),(13,ii),(23,ii),(79,.bool)],[c0,.orow 33,c8,c6]⟩)]),(43,.cut Jd),(45,.draw (od [1,3,5,7,9,11,12]) []),(47,.draw (od [1,3,5,7,9,11,12]) []),(51,.loop ⟨[(0,.pc 0 0),(4,.pc 2 0),(11,.sl 89),(12,ii),(13,ii),(98,.sl 89),(99,ii),(100,ii)],[c0,.orow 33,c8]⟩ [JK,(.exit 3,JX)]),(66,.cut Jd),(70,.cut [(.normal,JX),JK])]
def zo5(h:VS.ty CC->U3 (zh CC VT)):Spec CC:=⟨56,0,VS,VT,h⟩
def zji(h:VS.ty CC->U3 (zh CC VT))(x:VS.ty CC):U3 (zh CC VT):=we ⟨d⟩ [zlp,zlq,zhU,zlr,Wt,zls,zfF,zo5 h] lpO prog f56 0 VS VT zyr x
def zAk(h:VS.ty CC->U3 (zh CC VT)):Spec CC:=⟨56,0,VS,VT,zji h⟩
theorem zAl{h:VS.ty CC->U3 (zh CC VT)}(a:Spec.OK prog (zo5 h)):Spec.OK prog (zAk h):=yK (zy (okP zlp) (zy (okP zlq) (zy (okP zhU) (zy (okP zlr) (zy (okP Wt) (zy (okP zls) (zy (okP zfF) (zy a yL)))))))) ZG ZF zyr jO jO jO λx=>rfl
def zgC:Nat->VS.ty CC->U3 (zh CC VT)
 |0=>λ_=>q
 |k+1=>zji (zgC k)
theorem zvh:∀k,Spec.OK prog (zo5 (zgC k))
 |0=>⟨f56,jO,jO,jO,λx r h=>by cases h⟩
 |k+1=>zAl (zvh k)
def zys(x:VS.ty CC):U3 (zh CC VT):=zgC 100000 x
def ztr:Spec CC:=⟨56,0,VS,VT,zys⟩
theorem zA2:Spec.OK prog ztr:=zvh 100000
instance:Ok ztr:=⟨zA2⟩
def zhV:=spA d [] 157 1 f157 Kh [(.ret,Kh)] (hfind [])
instance:Ok zhV:=kA
def zhW:=spA d [] 187 1 f187 Kh [(.ret,GH)] (hfind [])
instance:Ok zhW:=kA
def zci:=spA d [zhW] 159 1 f159 ⟨[(0,.val 89),(1,ii)],[]⟩ [(.ret,GH)] (hfind [])
instance:Ok zci:=kA
def zhX:=spA d [zhW] 160 1 f160 Kh [(.ret,⟨[(0,.row 0)],[.row 76]⟩)] (hfind [(8,.loop ⟨[(3,.row 0),(7,.sl 89),(8,ii),(9,ii)],[.row 76]⟩ [(.exit 0,⟨[(3,.row 0)],[.row 76]⟩)])])
instance:Ok zhX:=kA
def VU:=spA d [] 61 1 f61 ⟨[(0,.pc 0 0),(1,.val 79)],[c25,.row 79]⟩ [(.ret,⟨[(0,ii)],[c29,.gone,.row 79]⟩)] (hfind [(3,.draw (od [1,3,5,7,9,11,12,14,17,19,20]) [])])
instance:Ok VU:=kA
def zlt:=spA d [zci,zhX,zhW,VU] 156 0 f156 ⟨[(0,.pc 0 0),(1,.val 89),(2,.val 89)],[c25,.row 79]⟩ [(.ret,JV)] (hfind [(11,.cut [(.normal,⟨[(0,.pc 0 0),(5,.pc 2 0),(6,.pc 3 0),(13,ii),(17,.bool)],GC⟩)]),(14,.cut J3),(15,.draw (od [1,3,5,7,9,13,17,10,14,18,21,22,25,26]) []),(18,.cut J3),(19,.draw (od [1,3,5,7,8,11,12]) []),(22,.cut J3),(23,.draw (od [1,3,5,7,8,11,12]) []),(26,.cut J3),(27,.draw (od [1,3,5,9,6,10,13,14,17,18]) []),(30,.cut J3),(31,.draw (od [1,3,5,9,6,10,13,14,17,18]) []),(35,.cut [(.normal,⟨[(0,.pc 0 0),(5,.pc 2 0),(6,.pc 3 0),(63,.bool)],GC⟩)]),(38,.cut [(.normal,⟨[(0,.pc 0 0),(6,.pc 2 0)],[c25,.row 79,c5]⟩)])])
instance:Ok zlt:=kA
def zlu:Sig:=⟨JP,[c25,.row 79]⟩
def zlv:List (XK×Sig):=[(.ret,JV)]
def zyt:Nat->U3 Hint:=hfind [(9,.draw (od [1,3,5,7,9,11,15,12,16,19,20,23]) []),(15,.draw (od [1,3,5,7,9,11,13,15,17,19,21,23,24]) []),(17,.cut [(.normal,⟨[(0,.pc 0 0),(3,.pc 2 0),(5,ii),(53,.bool)],[c57,.gone,c6,.row 79]⟩)]),(18,.cut [(.normal,JV)]),(21,.draw (od [1,3,5,7,9,11,13,15,17,19,21,23,24]) [])]
def zlw:Sig:=⟨JP,[c25,.row 79]⟩
def zlx:List (XK×Sig):=[(.ret,JV)]
def zyu:Nat->U3 Hint:=hfind [(10,.cut [(.ret,JV),Jo]),(12,.draw (od [1,3,5,6,8]) []),(17,.cut [(.normal,⟨[(0,.pc 0 0),(3,.pc 2 0),(4,.pc 3 0),(11,ii),(21,.bool)],GC⟩)]),(26,.cut [Jo]),(27,.draw (od [1,5,9,2,6,10,13,14,17,18]) []),(30,.cut [Jo]),(34,.cut [Jo]),(35,.draw (od [1,3,5,7,8,11,12]) []),(38,.cut [Jo]),(39,.draw (od [1,3,5,7,8,11,12]) []),(42,.cut [Jo]),(43,.draw (od [1,7,13,2,5,8,10,14,17,18,21,22]) []),(46,.cut [Jo]),(50,.cut [(.normal,⟨[(0,.pc 0 0),(4,.pc 2 0)],[c25,.row 79,c5]⟩)]),(51,.draw (od [1,3,5,7,9,13,10,14,17,18,21,22,25,26]) [])]
def XJ:Sig:=⟨JP,[c25,.row 79]⟩
def XL:List (XK×Sig):=[(.ret,JV)]
def zyv:Nat->U3 Hint:=hfind [(5,.loop ⟨[(0,.pc 0 0),(7,.sl 89),(8,ii),(9,ii)],[c29,.gone,.row 79]⟩ [(.exit 0,JV)])]
def zgD(h:XJ.ty CC->U3 (zh CC XL)):Spec CC:=⟨60,0,XJ,XL,h⟩
def zgE(h:XJ.ty CC->U3 (zh CC XL))(x:zlu.ty CC):U3 (zh CC zlv):=we ⟨d⟩ [zci,VU,zgD h] lpO prog f158 0 zlu zlv zyt x
def zvi(h:XJ.ty CC->U3 (zh CC XL)):Spec CC:=⟨158,0,zlu,zlv,zgE h⟩
theorem zvj{h:XJ.ty CC->U3 (zh CC XL)}(a:Spec.OK prog (zgD h)):Spec.OK prog (zvi h):=yK (zy (okP zci) (zy (okP VU) (zy a yL))) ZG ZF zyt jO jO jO λx=>rfl
def zgF(h:XJ.ty CC->U3 (zh CC XL))(x:zlw.ty CC):U3 (zh CC zlx):=we ⟨d⟩ [zhV,zlt,zvi h,zci,zhX,VU] lpO prog f114 0 zlw zlx zyu x
def zvk(h:XJ.ty CC->U3 (zh CC XL)):Spec CC:=⟨114,0,zlw,zlx,zgF h⟩
theorem zvl{h:XJ.ty CC->U3 (zh CC XL)}(a:Spec.OK prog (zgD h)):Spec.OK prog (zvk h):=yK (zy (okP zhV) (zy (okP zlt) (zy (zvj a) (zy (okP zci) (zy (okP zhX) (zy (okP VU) yL)))))) ZG ZF zyu jO jO jO λx=>rfl
def zjj(h:XJ.ty CC->U3 (zh CC XL))(x:XJ.ty CC):U3 (zh CC XL):=we ⟨d⟩ [zvk h] lpO prog f60 0 XJ XL zyv x
def zAm(h:XJ.ty CC->U3 (zh CC XL)):Spec CC:=⟨60,0,XJ,XL,zjj h⟩
theorem zAn{h:XJ.ty CC->U3 (zh CC XL)}(a:Spec.OK prog (zgD h)):Spec.OK prog (zAm h):=yK (zy (zvl a) yL) ZG ZF zyv jO jO jO λx=>rfl
def zcj:Nat->XJ.ty CC->U3 (zh CC XL)
 |0=>λ_=>q
 |k+1=>zjj (zcj k)
theorem zjk:∀k,Spec.OK prog (zgD (zcj k))
 |0=>⟨f60,jO,jO,jO,λx r h=>by cases h⟩
 |k+1=>zAn (zjk k)
def zA3(x:zlu.ty CC):U3 (zh CC zlv):=zgE (zcj 100000) x
def zyw:Spec CC:=⟨158,0,zlu,zlv,zA3⟩
theorem zA4:Spec.OK prog zyw:=zvj (zjk 100000)
instance:Ok zyw:=⟨zA4⟩
def zA5(x:zlw.ty CC):U3 (zh CC zlx):=zgF (zcj 100000) x
def zyx:Spec CC:=⟨114,0,zlw,zlx,zA5⟩
theorem zA6:Spec.OK prog zyx:=zvl (zjk 100000)
instance:Ok zyx:=⟨zA6⟩
def zyy(x:XJ.ty CC):U3 (zh CC XL):=zcj 100000 x
def zts:Spec CC:=⟨60,0,XJ,XL,zyy⟩
theorem zA7:Spec.OK prog zts:=zjk 100000
instance:Ok zts:=⟨zA7⟩
def zo6:=spA d [zts,VU] 21 1 f21 Kh [(.ret,⟨[(0,.val 30)],[]⟩)] (hfind [(18,.loop JL [(.exit 0,⟨[(2,.pc 0 0),(3,.pc 1 0),(4,.pc 2 0)],[c45,c43,c28,.row 9,.row 79]⟩)]),(34,.cut [(.normal,JL)]),(38,.cut [(.normal,JL)])])
instance:Ok zo6:=kA
def ztt:=spA d [Wt] 54 0 f54 ⟨[(0,.pc 0 0),(1,.val 89),(2,.bool),(3,ii)],J2⟩ [Jc,HA] (hfind [])
instance:Ok ztt:=kA
def ztu:Sig:=⟨[(0,.pc 0 0),(1,.pc 1 0),(2,.pc 2 0),(3,.ifc 161 (.agg [ii,ii]))],Gp⟩
def ztv:List (XK×Sig):=[(.ret,⟨[],[c32,c11,c11,.forow 33]⟩)]
def zyz:Nat->U3 Hint:=hfind [(5,.draw (od [1,3,5,7,8,10,12]) [])]
def ztw(x:ztu.ty CC):U3 (zh CC ztv):=zb7 ⟨d⟩ [] lpO prog f53 0 ztu ztv zyz x
def zyA:Spec CC:=⟨53,0,ztu,ztv,ztw⟩
theorem zA8:Spec.OKD prog zyA:=Vo yL ZG ZF zyz jO jO jO λx=>rfl
def ztx:Sig:=⟨KW,Gp⟩
def zty:List (XK×Sig):=[(.ret,⟨[],Gp⟩)]
def zyB:Nat->U3 Hint:=hfind []
def ztz(x:ztx.ty CC):U3 (zh CC zty):=zb7 ⟨d⟩ [] lpO prog f53 0 ztx zty zyB x
def zyC:Spec CC:=⟨53,0,ztx,zty,ztz⟩
theorem zA9:Spec.OKD prog zyC:=Vo yL ZG ZF zyB jO jO jO λx=>rfl
def ztA:Sig:=⟨[(0,.val 89),(1,.sl 192),(2,.sl 189)],[]⟩
def ztB:List (XK×Sig):=[(.ret,⟨Kr,[.orow 33]⟩)]
def zyD:Nat->U3 Hint:=hfind [(3,.loop ⟨[(1,.sl 192),(2,.sl 189),(3,.pc 0 0),(6,.pc 1 0),(7,.pc 2 0),(8,.pc 3 0),(14,.clo 53 [.pc 1 0,.pc 2 0,.pc 3 0])],[c6,c32,c11,c11]⟩ []),(10,.loop J6 [Ji,(.exit 0,⟨[(3,.pc 0 0),(6,.pc 1 0),(7,.pc 2 0),(8,.pc 3 0),(9,.pc 4 0)],[c6,c32,c11,c11,c39,.orow 33]⟩)]),(18,.cut [Ji,(.normal,J6)]),(23,.draw (od [1,3,5,7,11,13,8718,8720,16,8,18,21,23,24,14,16,18,21,23,24]) [Ji,(.normal,J6)]),(29,.loop ⟨[(6,.pc 1 0),(7,.pc 2 0),(8,.pc 3 0),(9,.pc 4 0),(46,.sl 89),(47,ii),(48,ii)],H8⟩ [Ji,(.exit 2,⟨[(6,.pc 1 0),(7,.pc 2 0),(8,.pc 3 0),(9,.pc 4 0)],H8⟩)]),(37,.cut [Ji,(.normal,JU)]),(44,.draw (od [1,3,5,7,9,11,13,15,17,19,21,23,25,26,29,31,33,35,36]) [Ji,(.normal,JU)])]
def zyE(x:ztA.ty CC):U3 (zh CC ztB):=zhK ⟨d⟩ [zo0,zto,ztr,zo6,ztt] (zyC) (zyA) lpO prog f19 3 ztA ztB zyD x
def ztC:Spec CC:=⟨19,3,ztA,ztB,zyE⟩
theorem zBa:Spec.OK prog ztC:=zhL Oks.o zA9 zA8 ZG ZF zyD jO jO jO λx=>rfl
instance:Ok ztC:=⟨zBa⟩
def zdH:=spA d [] 57 0 f57 ⟨KM,[c4,.forow 67]⟩ [(.ret,GF)] (hfind [(2,.cut [(.normal,GF)])])
instance:Ok zdH:=kA
def zo7:=spA d [] 111 1 f111 ⟨Kv,[c56,.row 215]⟩ [(.ret,⟨[(0,ii)],[c56,.row 215]⟩)] (hfind [(6,.loop ⟨[(0,.pc 0 0),(1,.str),(5,ii)],[c56,.row 215]⟩ [(.ret,⟨[(4,ii)],[c56,.row 215]⟩),(.exit 0,⟨[],[c56,.row 215]⟩)])])
instance:Ok zo7:=kA
def ztD:=spA d [zdH,zo7,zhT] 58 1 f58 ⟨[(0,.pc 0 0),(1,.val 93)],[c4,.forow 67]⟩ [(.ret,⟨[(0,.agg [.str,ii,.row 2])],[c4,.forow 67,.row 215]⟩)] (hfind [(20,.loop ⟨[(0,.pc 0 0),(3,.pc 2 0),(4,.pc 3 0),(5,ii),(6,.pc 4 0),(7,ii)],GE⟩ [(.exit 0,⟨HL,GE⟩)]),(38,.cut [(.normal,⟨[(0,.pc 0 0),(3,.pc 2 0),(4,.pc 3 0),(5,ii),(6,.pc 4 0),(7,ii),(8,.pc 5 0),(9,.pc 6 0)],[c4,.forow 67,c7,c26,c61,c7,c7,.row 215]⟩)]),(45,.cut [(.normal,⟨[(0,.pc 0 0),(3,.pc 2 0),(4,.pc 3 0),(5,ii),(6,.pc 4 0),(7,ii),(9,.pc 5 0),(11,.pc 6 0),(60,.bool)],Gw⟩)]),(46,.cut [(.normal,⟨[(0,.pc 0 0),(3,.pc 2 0),(4,.pc 3 0),(5,ii),(6,.pc 4 0),(7,ii),(9,.pc 5 0),(11,.pc 6 0)],Gw⟩)]),(52,.cut Ky),(56,.draw (od [1,3,5,7,9,11,13,15,17,18,21,22]) []),(59,.cut Ky),(68,.cut [(.normal,⟨[(4,.pc 2 0),(6,.pc 3 0)],[c4,.forow 67,c26,.cell [.str,ii,.row 4],.row 215]⟩)])])
instance:Ok ztD:=kA
def zly:=spA d [] 111 1 f111 HP KO (hfind [(6,.loop ⟨[(0,.pr 0 67 0),(1,.str),(5,ii)],[.forow 67]⟩ [(.ret,⟨[(4,ii)],[.forow 67]⟩),HI])])
instance:Ok zly:=kA
def zo8:=spA d [zly] 186 2 f186 HP [(.ret,⟨[(0,.val 215),(1,ii)],[.forow 67]⟩)] (hfind [(13,.draw (od [1,3,5,7,9,11,13,15,17,19,21,23,25,27,29,31,33,34,37]) [])])
instance:Ok zo8:=kA
def zlz:=spA d [zo8] 155 1 f155 ⟨[(0,.pr 0 67 0),(1,.val 93),(2,.val 215)],[.forow 67]⟩ KO (hfind [(5,.cut [KV,(.normal,⟨[(0,.pr 0 67 0),(4,.pc 1 0),(5,.pc 2 0)],[.forow 67,c7,c13]⟩)]),(31,.cut [KV,(.normal,⟨[(4,.pc 1 0),(5,.pc 2 0),(7,.pc 3 0)],[.forow 67,c7,c13,c13]⟩)]),(45,.cut [(.normal,⟨[(4,.pc 1 0),(5,.pc 2 0),(7,.pc 3 0),(9,.bool)],[.forow 67,c7,c13,c13]⟩)]),(48,.cut [(.normal,⟨[(60,.bool)],[.forow 67]⟩)])])
instance:Ok zlz:=kA
def ztE:=spA d [zlz] 154 1 f154 ⟨[(0,.pr 0 67 0),(1,.sl 93),(2,.sl 215)],[.forow 67]⟩ KO (hfind [(14,.loop ⟨[(0,.pr 0 67 0),(1,.sl 93),(2,.sl 215),(7,ii)],[.forow 67]⟩ [KV,HI]),(24,.draw (od [1,3,5,7,9,11,13,15,17,18,21]) [])])
instance:Ok ztE:=kA
def zo9:=spA d [ztE] 153 2 f153 ⟨Hj,[c4,.forow 67]⟩ [(.ret,HU)] (hfind [(6,.loop ⟨[(0,.pc 0 0),(1,.pr 1 67 0),(5,.pc 2 0),(6,.pc 3 0),(8,ii)],[c4,.forow 67,c7,c13]⟩ [(.ret,⟨[(6,.pc 2 0),(7,ii)],[c4,.forow 67,c13]⟩),(.exit 0,⟨[(6,.pc 2 0)],[c4,.forow 67,c13]⟩)]),(16,.draw (od [1,3,5,7,9,11,13,15,17,19,21]) []),(19,.draw (od [1,3,5,7,9,11,13,15,17,19,21,22,25]) [])])
instance:Ok zo9:=kA
def ztF:=spA d [zo8,zo9] 152 2 f152 ⟨Hj,[c4,.forow 67]⟩ [(.ret,HU)] (hfind [(10,.cut JA),(23,.cut [(.normal,⟨[(6,.pc 2 0),(9,.pc 3 0),(10,ii),(46,.bool)],Hh⟩)]),(24,.cut [(.normal,⟨[(6,.pc 2 0),(9,.pc 3 0),(10,ii)],Hh⟩)]),(33,.cut [(.normal,⟨[(0,.pc 0 0),(1,.pr 1 67 0),(5,.pc 2 0),(6,.pc 3 0),(8,.pc 4 0),(21,ii),(49,.bool)],[c4,.forow 67,c7,c13,c13]⟩)]),(36,.cut JA),(59,.cut [(.normal,⟨[(6,.pc 2 0),(8,.pc 3 0),(11,.pc 4 0),(87,.bool)],[c4,.forow 67,c13,c13,c13]⟩)]),(71,.cut [(.normal,⟨[(0,.pc 0 0),(1,.pr 1 67 0),(5,.pc 2 0),(6,.pc 3 0),(8,.pc 4 0),(21,ii),(90,.bool)],[c4,.forow 67,c7,c13,c13]⟩)]),(74,.cut JA),(98,.cut [(.normal,⟨[(6,.pc 2 0),(15,.pc 3 0)],Hh⟩)]),(111,.cut [(.normal,⟨[(6,.pc 2 0),(17,.pc 3 0),(18,ii),(129,.bool)],Hh⟩)]),(112,.cut [(.normal,⟨[(6,.pc 2 0),(17,.pc 3 0),(18,ii)],Hh⟩)])])
instance:Ok ztF:=kA
def ztG:=spA d [zlz] 154 1 f154 ⟨[(0,.pr 0 67 0),(1,.sl 93),(2,.nxp 0 67 215)],[.forow 67]⟩ KO (hfind [(14,.loop ⟨[(0,.pr 0 67 0),(1,.sl 93),(2,.nxp 0 67 215),(7,ii)],[.forow 67]⟩ [KV,HI]),(24,.draw (od [1,3,5,7,9,11,13,15,17,18,21]) [])])
instance:Ok ztG:=kA
def zlA:=spA d [ztF,zly,zo9,ztG,zlz] 113 1 f113 ⟨Hj,[c4,.orow 67]⟩ [(.ret,⟨[(0,ii)],[c4,.orow 67]⟩)] (hfind [(10,.cut J1),(30,.draw (od [1,3,5,7,9,11,12,14,17,19,20]) []),(37,.draw (od [1,3,5,7,9,11,13,15,17]) []),(48,.cut J1),(56,.cut J1),(61,.loop ⟨[(0,.pc 0 0),(1,.pr 1 67 0),(5,.pc 2 0),(13,ii)],GP⟩ [(.ret,⟨[(6,ii)],[c4,.orow 67]⟩),(.exit 1,Hu)]),(71,.draw (od [1,3,5,7,9,11,13,15,17,19,21]) []),(74,.draw (od [1,3,5,7,9,11,13,15,17,19,21,23,25,27,29,31,33,35,37,39,40,43]) []),(84,.cut [(.normal,⟨[(1,.pr 1 67 0),(5,.pc 2 0),(7,.pc 3 0),(17,ii),(117,.bool)],[c4,.orow 67,c7,c13]⟩)]),(87,.cut J1),(89,.draw (od [1,3,5,7,9,11,12,15]) []),(99,.draw (od [1,3,5,7,9,11,12,15]) []),(103,.cut J1)])
instance:Ok zlA:=kA
def VV:Sig:=⟨[(0,.pc 0 0),(1,.pr 1 67 0),(2,.sl 93)],[c4,.forow 67]⟩
def VW:List (XK×Sig):=[(.ret,Hu)]
def zyF:Nat->U3 Hint:=hfind [(3,.loop Ks [(.ret,Hu),(.exit 0,Hu)]),(6,.cut [(.normal,⟨[(0,.pc 0 0),(1,.pr 1 67 0),(2,.sl 93),(6,ii),(20,.bool)],[c4,.orow 67]⟩)]),(25,.cut [(.normal,⟨[(0,.pc 0 0),(1,.pr 1 67 0),(2,.sl 93),(6,ii),(7,.pc 2 0),(45,.bool)],GP⟩)]),(26,.cut [(.normal,Ks)]),(30,.loop ⟨[(0,.pc 0 0),(1,.pr 1 67 0),(2,.sl 93),(6,ii),(7,.pc 2 0),(9,ii)],GP⟩ [(.exit 2,Ks)])]
def zpa(h:VV.ty CC->U3 (zh CC VW)):Spec CC:=⟨59,0,VV,VW,h⟩
def zjl(h:VV.ty CC->U3 (zh CC VW))(x:VV.ty CC):U3 (zh CC VW):=we ⟨d⟩ [zlA,zdH,zpa h] lpO prog f59 0 VV VW zyF x
def zAo(h:VV.ty CC->U3 (zh CC VW)):Spec CC:=⟨59,0,VV,VW,zjl h⟩
theorem zAp{h:VV.ty CC->U3 (zh CC VW)}(a:Spec.OK prog (zpa h)):Spec.OK prog (zAo h):=yK (zy (okP zlA) (zy (okP zdH) (zy a yL))) ZG ZF zyF jO jO jO λx=>rfl
def zgG:Nat->VV.ty CC->U3 (zh CC VW)
 |0=>λ_=>q
 |k+1=>zjl (zgG k)
theorem zvm:∀k,Spec.OK prog (zpa (zgG k))
 |0=>⟨f59,jO,jO,jO,λx r h=>by cases h⟩
 |k+1=>zAp (zvm k)
def zyG(x:VV.ty CC):U3 (zh CC VW):=zgG 100000 x
def ztH:Spec CC:=⟨59,0,VV,VW,zyG⟩
theorem zBb:Spec.OK prog ztH:=zvm 100000
instance:Ok ztH:=⟨zBb⟩
def zck:=spA d [] 116 1 f116 KG [(.ret,⟨[(0,.val 180)],[]⟩)] (hfind [])
instance:Ok zck:=kA
def zpb:=spA d [zck] 162 1 f162 ⟨[(0,.sl 93)],[]⟩ [(.ret,⟨[(0,.row 0)],[.row 180]⟩)] (hfind [(8,.loop ⟨[(0,.sl 93),(3,.row 0),(4,ii)],[.row 180]⟩ [(.exit 0,⟨[(3,.row 0)],[.row 180]⟩)])])
instance:Ok zpb:=kA
def ztI:=spA d [zck,zpb] 161 1 f161 KG [(.ret,KX)] (hfind [(13,.cut [(.normal,⟨[(2,.pc 0 0),(3,.pc 1 0),(4,.pc 2 0),(20,ii),(21,.bool)],[c5,c7,c5]⟩)]),(16,.cut Jt),(20,.cut Jt),(28,.cut Jt),(36,.cut Jt),(42,.cut Jt),(48,.cut Jt),(56,.cut Jt)])
instance:Ok ztI:=kA
def zlB:=spA d [ztI,zck,zpb] 115 1 f115 KG [(.ret,KX)] (hfind [(16,.cut Jy),(24,.cut Jy),(28,.cut Jy),(34,.cut Jy),(40,.cut Jy),(48,.cut Jy),(54,.cut KP),(61,.cut KP),(68,.cut KP)])
instance:Ok zlB:=kA
def VX:Sig:=Gz
def VY:List (XK×Sig):=[(.ret,⟨[(0,.row 0)],[.row 183]⟩)]
def zyH:Nat->U3 Hint:=hfind [(8,.loop ⟨Kk,[c7,.row 183]⟩ [(.exit 0,⟨[(5,.row 0)],[.row 183]⟩)]),(16,.cut [(.normal,⟨Kk,[c7,.row 183]⟩)]),(23,.cut [(.normal,⟨[(1,ii),(2,.pc 0 0),(5,.row 1),(6,ii),(7,.pc 2 0),(8,ii),(40,.bool)],[c7,.row 183,c7]⟩)]),(45,.loop ⟨[(1,ii),(2,.pc 0 0),(5,.row 1),(6,ii),(7,.pc 2 0),(8,ii),(12,.row 3),(13,ii),(14,ii)],[c7,.row 183,c7,.row 183]⟩ [(.exit 2,⟨[(1,ii),(2,.pc 0 0),(5,.row 1),(6,ii),(7,.pc 2 0),(8,ii),(13,ii)],[c7,.row 183,c7]⟩)]),(71,.loop ⟨[(1,ii),(2,.pc 0 0),(5,.row 1),(6,ii),(15,.row 2),(16,ii)],[c7,.row 183,.row 183]⟩ [(.exit 4,⟨Kk,[c7,.row 183]⟩)])]
def zpc(h:VX.ty CC->U3 (zh CC VY)):Spec CC:=⟨62,1,VX,VY,h⟩
def zjm(h:VX.ty CC->U3 (zh CC VY))(x:VX.ty CC):U3 (zh CC VY):=we ⟨d⟩ [zlB,zck,zpc h] lpO prog f62 1 VX VY zyH x
def zAq(h:VX.ty CC->U3 (zh CC VY)):Spec CC:=⟨62,1,VX,VY,zjm h⟩
theorem zAr{h:VX.ty CC->U3 (zh CC VY)}(a:Spec.OK prog (zpc h)):Spec.OK prog (zAq h):=yK (zy (okP zlB) (zy (okP zck) (zy a yL))) ZG ZF zyH jO jO jO λx=>rfl
def zgH:Nat->VX.ty CC->U3 (zh CC VY)
 |0=>λ_=>q
 |k+1=>zjm (zgH k)
theorem zvn:∀k,Spec.OK prog (zpc (zgH k))
 |0=>⟨f62,jO,jO,jO,λx r h=>by cases h⟩
 |k+1=>zAr (zvn k)
def zyI(x:VX.ty CC):U3 (zh CC VY):=zgH 100000 x
def ztJ:Spec CC:=⟨62,1,VX,VY,zyI⟩
theorem zBc:Spec.OK prog ztJ:=zvn 100000
instance:Ok ztJ:=⟨zBc⟩
def zpd:=spA d [ztJ] 22 1 f22 KG [(.ret,⟨[(0,.agg [.str,.row 0,.row 1])],[.row 9,.row 183]⟩)] (hfind [(10,.loop ⟨[(1,.pc 0 0),(2,.pc 1 0),(3,.pc 2 0),(4,ii),(5,ii)],[c7,c45,c43,.row 9]⟩ [(.exit 0,⟨Gm,[c7,c45,c43,.row 9]⟩)]),(19,.draw (od [1,3,5,7,9,11,13,15,16,18,21,22]) []),(24,.draw (od [1,3,5,7,9,11,13,15,17,18,20,23,24]) [])])
instance:Ok zpd:=kA
def ztK:=spA d [zdH,ztD,ztH,zpd] 20 1 f20 ⟨[(0,.val 93),(1,.sl 217),(2,.sl 211)],[]⟩ [(.ret,⟨[(0,.pc 0 0)],[c4,.orow 67]⟩)] (hfind [(8,.loop ⟨[(3,.pc 0 0),(7,.pc 1 0),(8,ii)],Ht⟩ [(.exit 0,⟨[(3,.pc 0 0),(7,.pc 1 0)],Ht⟩)]),(11,.cut [(.normal,⟨[(3,.pc 0 0),(7,.pc 1 0),(8,ii),(29,.bool)],Ht⟩)]),(27,.draw (od [1,3,5,7,9,11,12,14,17,19,20]) []),(33,.loop HT [(.exit 2,Gn)]),(36,.cut [(.normal,⟨[(3,.pc 0 0),(7,.pc 1 0),(10,ii),(75,.bool)],Ht⟩)]),(47,.draw (od [1,3,5,7,9,11,13,15,17,19,21,23,25,26]) []),(51,.cut [(.normal,⟨[(3,.pc 0 0),(7,.pc 1 0),(10,ii),(11,.pc 2 0),(118,.bool)],[c7,.cell [.sl 217,.sl 211,.row 3,ii,ii],c7,.orow 67]⟩)]),(52,.cut [(.normal,HT)]),(59,.cut [(.normal,Gn)])])
instance:Ok ztK:=kA
def ztL:=spA d [ztm,P50,zoW,ztC,ztK,zo6,zpd] 8 3 f8 KC [(.ret,⟨[(0,.val 53),(1,.val 58),(2,.bool)],[]⟩)] (hfind [(8,.cut [(.normal,⟨[(1,.str),(4,.pc 0 0),(5,.pc 1 0),(7,.pc 2 0),(9,.pc 3 0),(38,.bool)],[c24,c54,c62,c6]⟩)]),(26,.loop J4 [(.exit 0,⟨[(4,.pc 0 0),(5,.pc 1 0),(7,.pc 2 0),(15,.row 3),(17,ii),(18,.pc 4 0),(19,.pc 5 0)],[c24,c54,c62,.orow 33,.cell [.sl 217,.sl 211,.row 6,ii,ii],.cell [.row 3,.row 7,.row 6,.row 8],.orow 67,.row 30,.row 64]⟩)]),(39,.cut [(.normal,J4)]),(41,.draw (od [1,3,5,6,8,10,13,14]) []),(42,.draw (od [1,3,5,7,9,11,13,14,16,18,21,22]) []),(46,.draw (od [1,3,5,7,9,11,13,15,17,19,21,23,25,27,29,31,33,35,37,39,41,43,45,47,49,51,53,55,57,58,60,63]) [(.normal,⟨[(4,.pc 0 0),(5,.pc 1 0),(6,.bool)],[c62,.cell [.row 2,.row 3,.row 4,.row 5],.orow 33,.row 30,.orow 67,.row 64]⟩)])])
instance:Ok ztL:=kA
def zpe:=spA d [ztL] 4 3 f4 KC [(.ret,⟨[(0,.row 0),(1,.row 1),(2,.bool)],[.row 39,.row 61]⟩)] (hfind [(20,.loop ⟨[(7,.pc 0 0),(8,.pc 1 0),(10,.row 2),(11,.row 3),(24,ii),(25,ii)],[c62,.cell [.val 58],.row 39,.row 61]⟩ [(.exit 0,⟨[(10,.row 0),(11,.row 1)],[.row 39,.row 61]⟩)]),(32,.draw (od [1,3,5,7,9,11,13,15,17,19,21,23,25,27,29,31,33,35,36,38,40]) []),(33,.draw (od [1,3,5,7,9,11,13,15,17,19,21,23,25,27,29,31,33,35,36,38,40,42]) [])])
instance:Ok zpe:=kA
def zdI:=spA d [] 26 2 f26 Kj [(.ret,⟨[(0,.val 79),(1,.bool)],[]⟩)] (hfind [(4,.cut [(.normal,⟨[(1,ii),(2,.pc 0 0),(4,.pc 1 0),(15,.bool)],[c12,c5]⟩)])])
instance:Ok zdI:=kA
def zpf:=spA d [zdI] 12 1 f12 Kj Hy (hfind [(7,.cut [(.normal,⟨[(1,ii),(5,.pc 0 0),(13,.bool)],[c22]⟩)]),(8,.cut [H5,(.normal,⟨[(1,ii)],[]⟩)]),(14,.cut [H5,(.normal,⟨[(1,ii)],[]⟩)]),(19,.cut [(.normal,⟨[(1,ii),(5,.pc 0 0),(33,.bool)],[c22]⟩)])])
instance:Ok zpf:=kA
def zpg:=spA d [] 233 0 f233 ⟨[(0,.pc 0 0),(1,.ifc 3 (ii))],Jf⟩ G6 (hfind [(0,.draw (od [1,3,5,7,9,11,13,14,16,19,21,22]) [])])
instance:Ok zpg:=kA
def zfG:=spA d [] 33 1 f33 GI [(.ret,⟨[(0,ii)],Jf⟩)] (hfind [])
instance:Ok zfG:=kA
def zlC:=spA d [] 231 1 f231 ⟨KM,Jf⟩ [(.ret,GN)] (hfind [(3,.draw (od [1,3,5,7,9,11,13,15,17,19,21,23,25,27,29,31,33,35,37,39,41,43,45,47,49,51]) [])])
instance:Ok zlC:=kA
def zhY:=spA d [] 234 0 f234 ⟨KM,Jf⟩ [(.ret,⟨[],Jf⟩)] (hfind [(0,.draw (od [1,3,5,7,9,11,13,15,17,19,21,23,25,27,29,31,33,35,37,39,41,43,45,47,49,50,53,54]) [])])
instance:Ok zhY:=kA
def ztM:=spA d [zlC,zhY] 117 0 f117 Gc [(.ret,⟨[],Jf⟩)] (hfind [(1,.loop Gc [(.exit 0,⟨[],Jf⟩)]),(7,.cut [(.normal,⟨[(0,.ifc 117 (.pc 0 0)),(1,ii),(4,ii),(17,.bool)],Jf⟩)])])
instance:Ok ztM:=kA
def ztN:=spA d [zpg,zfG,ztM] 69 0 f69 ⟨[(0,.ifc 117 (.pc 0 0)),(1,.ifc 3 (ii))],Jf⟩ G6 (hfind [])
instance:Ok ztN:=kA
def zhZ:=spA d [ztN] 32 0 f32 ⟨Ka,Jf⟩ G6 (hfind [(2,.cut [(.normal,⟨[],Kx⟩)])])
instance:Ok zhZ:=kA
def ztO:=spA d [zlC,zhY] 70 1 f70 ⟨[(0,.ifc 117 (.pc 0 0)),(1,ii),(2,ii)],Jf⟩ [(.ret,GN)] (hfind [(6,.loop H7 [(.exit 0,GD)]),(7,.cut [(.exit 0,GD),(.normal,H7)]),(12,.cut [(.normal,⟨[(0,.ifc 117 (.pc 0 0)),(1,ii),(2,ii),(7,ii),(8,ii),(21,.bool)],Jf⟩)]),(22,.cut [(.normal,⟨[(0,.ifc 117 (.pc 0 0)),(1,ii),(2,ii),(7,ii),(9,ii),(10,ii),(33,.bool)],Jf⟩)]),(23,.cut [(.normal,⟨[(0,.ifc 117 (.pc 0 0)),(1,ii),(2,ii),(7,ii),(9,ii)],Jf⟩)])])
instance:Ok ztO:=kA
def zph:=spA d [] 232 1 f232 GI [(.ret,G8)] (hfind [])
instance:Ok zph:=kA
def zpi:=spA d [zfG,zhY,ztO,zph] 34 1 f34 ⟨[(0,.ifc 117 (.pc 0 0))],Jf⟩ [(.ret,G8)] (hfind [])
instance:Ok zpi:=kA
def zpj:=spA d [zdI,zch] 15 1 f15 Kj Jx (hfind [(6,.cut [(.normal,⟨[(2,.pc 0 0),(5,.pc 1 0),(28,.bool)],[c12,c22]⟩)])])
instance:Ok zpj:=kA
def zpk:=spA d [] 27 1 f27 ⟨[(0,.val 79)],[]⟩ [(.ret,⟨[(0,.row 0)],[.row 9]⟩)] (hfind [(11,.cut JT),(15,.cut JT),(19,.cut JT),(23,.cut JT),(26,.cut [(.normal,⟨[(1,.pc 0 0),(3,.row 1)],[c22,.row 9]⟩)]),(33,.loop Hp [(.exit 1,⟨[(3,.row 0)],[.row 9]⟩)]),(46,.cut [(.normal,Hp)])])
instance:Ok zpk:=kA
def zpl:=spA d [zdI,zpk,zch] 10 1 f10 Kj Hy (hfind [(9,.cut [(.normal,G3)]),(13,.loop ⟨[(2,.pc 0 0),(5,.row 1),(18,.row 2),(19,ii),(20,ii)],[c12,.row 3,.row 9]⟩ [(.exit 0,G3)])])
instance:Ok zpl:=kA
def ztP:=spA d [zpj,zpl,zhZ] 14 0 f14 JR [(.ret,⟨[],Jl⟩)] (hfind [(1,.draw (od [1,3,5,7,9,11,13,15,16]) []),(7,.cut [(.normal,JR)]),(14,.loop ⟨[(0,ii),(1,.clo 32 [.tup [.pc 0 0]]),(2,.pc 1 0),(3,.pc 2 0),(5,.pc 4 0),(37,.row 10),(38,ii),(39,ii)],[c59,c33,c41,c12,c48,.row 3,.obj 0 118,.orow 46,.orow 46,.orow 72,.row 3]⟩ [(.exit 0,⟨[(0,ii),(1,.clo 32 [.tup [.pc 0 0]]),(2,.pc 1 0),(3,.pc 2 0),(5,.pc 4 0)],[c59,c33,c41,c12,c48,.row 3,.obj 0 118,.orow 46,.orow 46,.orow 72]⟩)]),(30,.loop KE [(.exit 2,⟨[],Jl⟩)]),(44,.loop Ke [(.exit 4,KE)]),(56,.cut [(.normal,⟨[(0,ii),(1,.clo 32 [.tup [.pc 0 0]]),(2,.pc 1 0),(3,.pc 2 0),(12,ii),(13,ii),(53,.nx 9 72),(54,ii),(55,ii),(62,.nx 7 46),(63,ii),(64,ii),(79,.bool)],Jl⟩)]),(57,.cut [(.normal,Ke)])])
instance:Ok ztP:=kA
def ztQ:=spA d [zhZ,zfG,zpi,ztP] 13 0 f13 ⟨[(0,.bool),(1,.sl 3),(2,.clo 14 [.pc 0 0,.pc 1 0,.pc 2 0,.pc 3 0])],[c28,c27,c12,c42,.forow 46,.forow 46,.forow 72]⟩ [(.ret,H9)] (hfind [(5,.cut [(.normal,⟨[(1,.sl 3),(2,.clo 14 [.pc 0 0,.pc 1 0,.pc 2 0,.pc 3 0]),(6,.pc 7 0)],[c28,c27,c12,c42,.forow 46,.forow 46,.forow 72,.cell [.nils,.row 8,ii],.obj 0 118]⟩)]),(12,.loop ⟨[(2,.clo 14 [.pc 0 0,.pc 1 0,.pc 2 0,.pc 3 0]),(6,.pc 7 0),(18,.sl 3),(19,ii),(20,ii)],Hx⟩ [(.exit 0,⟨[(2,.clo 14 [.pc 0 0,.pc 1 0,.pc 2 0,.pc 3 0]),(6,.pc 7 0)],Hx⟩)]),(28,.loop ⟨[(2,.clo 14 [.pc 0 0,.pc 1 0,.pc 2 0,.pc 3 0]),(6,.pc 7 0),(9,.clo 32 [.tup [.pc 7 0]])],[c28,c27,c12,c42,.orow 46,.orow 46,.orow 72,c63,.row 3,.obj 0 118]⟩ [(.exit 2,H9)])])
instance:Ok ztQ:=kA
def zpm:=spA d [zpf,ztQ] 7 2 f7 HW [(.ret,⟨[(0,.row 0),(1,.row 1)],[.orow 46,.orow 46]⟩)] (hfind [(5,.draw (od [1,5,8326,8584,8,6,10,2,8,10]) [(.normal,⟨Gm,[c12,c57,c28,.orow 46,.orow 46]⟩)]),(14,.loop KT [(.exit 0,⟨[(1,.pc 0 0),(2,.pc 1 0),(3,.pc 2 0),(5,.pc 3 0),(6,.row 4)],Kg⟩)]),(26,.draw (od [1,3,5,7,9,11,13,15,19,21,23,25,9242,29,9886,30,26,33,34,16,29,30,33,34]) [(.normal,⟨[(1,.pc 0 0),(2,.pc 1 0),(3,.pc 2 0),(5,.pc 3 0),(6,.row 4),(7,ii),(20,ii),(21,ii)],Kg⟩)]),(32,.loop ⟨[(1,.pc 0 0),(2,.pc 1 0),(3,.pc 2 0),(5,.pc 3 0),(6,.row 4),(7,ii),(20,ii),(21,ii),(46,.row 5),(47,ii),(48,ii)],[c12,c42,c33,c41,.row 3,.row 3,.orow 46,.orow 46,.orow 72]⟩ [(.exit 2,KT)]),(43,.draw (od [1,3,5,7,9,11,13,14,16,19,20]) []),(49,.draw (od [1,3,4,6]) [])])
instance:Ok zpm:=kA
def ztR:=spA d [zpe,zpm] 5 1 f5 ⟨[],[]⟩ Jn (hfind [(15,.cut [(.normal,⟨[(0,.bool)],[]⟩)])])
instance:Ok ztR:=kA
def zlD:=spA d [] 25 1 f25 ⟨[(0,.sl 4)],[]⟩ [(.ret,G4)] (hfind [])
instance:Ok zlD:=kA
def ztS:=spA d [zdI,zch] 29 4 f29 Kj [(.ret,⟨[(0,.val 112),(1,.val 112),(2,ii),(3,.bool)],[]⟩)] (hfind [(6,.cut [(.normal,⟨[(2,.pc 0 0),(4,.pc 1 0),(5,.pc 2 0),(8,.pc 3 0),(34,.bool)],[c12,c8,c8,c22]⟩)]),(9,.draw (od [1,3,4,6,9,11]) []),(15,.draw (od [1,3,5,7,9,11,13,21,23,25,27,29,31,33,14,17,19,34,36,38,41]) [])])
instance:Ok ztS:=kA
def zpn:=spA d [] 30 1 f30 ⟨[(0,.val 39),(1,.val 112)],[]⟩ Jn (hfind [(3,.cut Jb)])
instance:Ok zpn:=kA
def zpo:=spA d [] 66 1 f66 ⟨[(0,.val 192),(1,.pc 0 0)],[c22]⟩ [(.ret,GG)] (hfind [])
instance:Ok zpo:=kA
def ztT:=spA d [zpo] 65 1 f65 ⟨[(0,.sl 192),(1,.clo 66 [.pc 0 0])],[c22]⟩ [(.ret,GM)] (hfind [(6,.loop ⟨[(0,.sl 192),(1,.clo 66 [.pc 0 0]),(7,ii),(8,ii)],[c22]⟩ HO)])
instance:Ok ztT:=kA
def zpp:=spA d [] 68 1 f68 ⟨[(0,.val 33),(1,.pc 0 0)],[c22]⟩ [(.ret,GG)] (hfind [])
instance:Ok zpp:=kA
def ztU:=spA d [zpp] 67 1 f67 ⟨[(0,.sl 33),(1,.clo 68 [.pc 0 0])],[c22]⟩ [(.ret,GM)] (hfind [(6,.loop ⟨[(0,.sl 33),(1,.clo 68 [.pc 0 0]),(7,ii),(8,ii)],[c22]⟩ HO)])
instance:Ok ztU:=kA
def ztV:=spA d [ztT,ztU] 31 1 f31 ⟨[(0,.val 39),(1,.val 79)],[]⟩ [(.ret,⟨[(0,.sl 112)],[]⟩)] (hfind [(8,.cut HR),(20,.cut HR),(27,.draw (od [1,3,5,7,9,11,13,15,17,19,21,23,25,27]) [])])
instance:Ok ztV:=kA
def zpq:=spA d [ztS,zpn,zdI,ztV,zch] 11 1 f11 Kj Hy (hfind [(7,.cut [H5,(.normal,⟨[(1,ii),(2,.pc 0 0)],[c12]⟩)]),(10,.cut [(.normal,⟨[(7,ii),(37,.bool)],[]⟩)]),(28,.loop KJ [(.exit 0,⟨[(11,.row 0)],[.row 3]⟩)]),(41,.cut [(.normal,KJ)]),(42,.draw (od [1,3,5,7,9,11,13,15,17,18,20,22,24]) [])])
instance:Ok zpq:=kA
def ztW:=spA d [zlD,zpq,zpj] 24 1 f24 ⟨[(0,.val 39),(1,ii),(2,.sl 4)],[]⟩ [(.ret,G4)] (hfind [(8,.loop ⟨[(1,ii),(3,.pc 0 0),(7,.row 1),(15,.row 2),(16,ii),(17,ii)],[c12,.row 4,.row 3]⟩ [(.exit 0,⟨[(1,ii),(3,.pc 0 0),(7,.row 1)],[c12,.row 4]⟩)]),(26,.cut [(.normal,⟨[(7,.row 0)],[.row 4]⟩)])])
instance:Ok ztW:=kA
def ztX:=spA d [ztW,zpf,zlD,zhZ] 23 0 f23 ⟨[(0,ii),(1,.clo 32 [.tup [.pc 0 0]]),(2,.pc 1 0),(3,.pc 2 0)],[.cell [.row 3,.row 4,ii],c12,c27,.row 3,.obj 0 118,.orow 46]⟩ [(.ret,KZ)] (hfind [(1,.draw (od [1,3,5,7,9,11,12,15]) []),(5,.loop Jw [(.exit 0,KZ)]),(13,.cut [(.normal,Jw)]),(21,.draw (od [1,3,5,6,9,10]) []),(29,.loop JO [(.exit 2,Jw)]),(41,.cut [(.normal,⟨[(1,.clo 32 [.tup [.pc 0 0]]),(3,.pc 2 0),(6,.row 6),(8,ii),(9,ii),(19,.row 7),(20,ii),(21,ii),(39,ii),(40,ii),(56,.bool)],[c47,c12,c27,.gone,.obj 0 118,.orow 46,.row 4,.row 3,.row 3]⟩)]),(42,.cut [(.normal,JO)])])
instance:Ok ztX:=kA
def ztY:=spA d [zhZ,zfG,zpi,ztX] 13 0 f13 ⟨[(0,.bool),(1,.sl 3),(2,.clo 23 [.pc 0 0,.pc 1 0])],[c12,c29,.forow 46]⟩ [(.ret,⟨[],Gg⟩)] (hfind [(5,.cut [(.normal,⟨[(1,.sl 3),(2,.clo 23 [.pc 0 0,.pc 1 0]),(6,.pc 3 0)],[c12,c29,.forow 46,.cell [.nils,.row 4,ii],.obj 0 118]⟩)]),(12,.loop ⟨[(2,.clo 23 [.pc 0 0,.pc 1 0]),(6,.pc 3 0),(18,.sl 3),(19,ii),(20,ii)],Gx⟩ [(.exit 0,⟨[(2,.clo 23 [.pc 0 0,.pc 1 0]),(6,.pc 3 0)],Gx⟩)]),(28,.loop ⟨[(2,.clo 23 [.pc 0 0,.pc 1 0]),(6,.pc 3 0),(9,.clo 32 [.tup [.pc 3 0]])],[c12,c29,.orow 46,c64,.row 3,.obj 0 118]⟩ [(.exit 2,⟨[],Gg⟩)])])
instance:Ok ztY:=kA
def ztZ:=spA d [ztY] 9 1 f9 HW [(.ret,⟨[(0,.row 0)],[.orow 46]⟩)] (hfind [(13,.draw (od [1,3,5,7,9,10,13,14]) []),(18,.loop ⟨[(1,.pc 0 0),(3,.pc 1 0),(22,ii),(23,ii)],Gg⟩ [(.exit 0,⟨[(1,.pc 0 0),(3,.pc 1 0)],Gg⟩)])])
instance:Ok ztZ:=kA
def zt0:=spA d [ztZ,zpl,zpq] 6 2 f6 HW [(.ret,⟨[(0,ii),(1,ii)],[]⟩)] (hfind [(6,.loop Kz [KY,(.exit 0,⟨[],[]⟩)]),(14,.cut [(.normal,Kz),KY]),(29,.loop ⟨[(1,.pc 0 0),(4,ii),(5,.nx 1 46),(6,.row 2),(12,.row 1),(13,ii),(14,ii),(24,.row 3),(25,ii),(26,ii)],[c12,.orow 46,.obj 0 71,.row 3]⟩ [KY,(.exit 2,⟨[(1,.pc 0 0),(4,ii),(6,.row 1),(12,.row 2),(13,ii),(14,ii)],[c12,.obj 0 71,.orow 46]⟩)]),(53,.loop ⟨[(1,.pc 0 0),(4,ii),(6,.row 1),(12,.row 2),(13,ii),(14,ii),(49,.row 3),(50,ii),(51,ii)],[c12,.obj 0 71,.orow 46,.row 3]⟩ [KY,(.exit 4,Kz)])])
instance:Ok zt0:=kA
def zfH:=spA d [zpe,ztR,zt0,zpm] 3 1 f3 KC Jn (hfind [(6,.cut [(.normal,⟨[(5,.row 0),(28,.bool)],[.row 39]⟩)]),(16,.loop KR [Gb,(.exit 0,⟨[],[]⟩)]),(24,.cut [(.normal,KR),Gb]),(40,.loop ⟨[(9,.pc 0 0),(30,.row 1),(31,ii),(32,ii),(50,.nx 2 46),(51,ii),(52,ii)],[c12,.row 39,.orow 46]⟩ [Gb,(.exit 2,KR)]),(52,.cut [(.normal,⟨[(9,.pc 0 0),(30,.row 1),(31,ii),(32,ii),(50,.nx 2 46),(51,ii),(52,ii),(64,.bool)],[c12,.row 39,.orow 46]⟩)])])
instance:Ok zfH:=kA
theorem zBd:zfH.OK prog:=Ok.o
end
end Go.Px
