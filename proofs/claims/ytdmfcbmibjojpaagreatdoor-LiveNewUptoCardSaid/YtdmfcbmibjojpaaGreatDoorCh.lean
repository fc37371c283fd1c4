/- Part Ch. -/
import Derived.Test.YtdmfcbmibjojpaaGreatDoorSf
set_option linter.unusedVariables false
set_option linter.unusedSimpArgs false
namespace Go.Px
open Bool renaming false->d,true->j
open Nat renaming beq->m
open _root_.Option renaming some->i,none->q
open Go.Proofs Go.Proofs.Tryz
set_option maxRecDepth 100000
noncomputable section
theorem ZG:Tryz.prog.follows .mixedOrders=true:=by kernel_rfl
def GLk:World->FS->Prop:=λ_ Z=>(∃t p,Z 0 0=i (.iface t p))/\∃t p,Z 1 0=i (.iface t p)
theorem glm{Z τ:FS}{w w':World}{h:zc}(l:Z.le τ)(_:Ext w h w')(g:GLk w Z):GLk w' τ:=by
 obtain⟨⟨t,p,a⟩,t',p',b⟩:=g
 exact⟨⟨t,p,l _ _ _ a⟩,t',p',l _ _ _ b⟩
structure qr where
 k_:Int
 T_:U0
 N_:Int
 a_:Int
structure q7 where
 Z_:(Sl qr)
 D_:Int
structure q8 where
 k_:Int
 T_:U0
 N_:Int
 a_:Int
 K_:(Sl q8)
structure qt where
 n_:U0
 E_:Int
structure qw where
 X_:Int
 Y_:Int
 C_:Int
structure qa where
 n_:U0
 S_:Int
 o_:Int
 G_:(Sl qt)
 J_:(Sl qw)
structure qj where
 n_:U0
 M_:Int
 t_:Int
structure qf where
 n_:U0
 P_:(Sl qj)
 R_:qj
structure q9 where
 k_:Int
 T_:U0
 N_:Int
 a_:Int
structure q6 where
 k_:Int
 T_:U0
 N_:Int
 a_:Int
 K_:(Sl q6)
structure qn where
 n_:U0
 E_:Int
structure qu where
 X_:Int
 Y_:Int
 C_:Int
structure qd where
 n_:U0
 S_:Int
 o_:Int
 G_:(Sl qn)
 J_:(Sl qu)
structure qh where
 n_:U0
 M_:Int
 t_:Int
structure qi where
 n_:U0
 P_:(Sl qh)
 R_:qh
structure q13 where
 f_:(Sl q8)
 z_:(Sl qa)
 s_:(Sl qf)
 r_:(Sl q6)
 q_:(Sl qd)
 U_:(Sl qi)
structure qe where
 n_:U0
 P_:Int
 V_:(Sl qj)
structure qz where
 n_:U0
 N_:Int
structure ql where
 O_:Int
 a_:Int
 X_:U0
 Y_:U0
 A_:qz
 B_:qz
 Q_:(Sl qz)
 W_:Int
 H_:Bool
structure q1j where
 n_:U0
 P_:(Sl U0)
 L_:(Sl ql)
structure qg where
 n_:U0
 P_:Int
 V_:(Sl qh)
structure qp where
 n_:U0
 N_:Int
structure qq where
 O_:Int
 a_:Int
 X_:U0
 Y_:U0
 A_:qp
 B_:qp
 Q_:(Sl qp)
 W_:Int
 H_:Bool
structure q1k where
 n_:U0
 P_:(Sl U0)
 L_:(Sl qq)
structure q1o where
 f_:(Sl qe)
 I_:(Sl q1j)
 r_:(Sl qg)
 g_:(Sl q1k)
structure qm where
 c_:q1j
 F_:qe
 j_:(Sl qf)
 w_:(Sl qe)
 h_:(Sl qa)
structure q17 where
 c_:q1k
 F_:qg
 j_:(Sl qi)
 w_:(Sl qg)
 h_:(Sl qd)
abbrev DT:List (Nat×Type):=[(129,qr),(126,q7),(78,q8),(240,qt),(297,qw),(189,qa),(9,U0),(180,qj),(192,qf),(142,q9),(83,q6),(250,qn),(253,qu),(198,qd),(3,Int),(202,qh),(204,qi),(50,q13),(33,qe),(96,qz),(99,ql),(30,q1j),(64,qg),(167,qp),(170,qq),(61,q1k),(55,q1o),(39,qm),(66,q17),(58,q17),(4,Bool),(43,(Sl Bool)),(68,(Sl Int)),(103,(Int×Bool))]
abbrev DD:Nat->Type:=zvm DT
def zyD:(T:Nat)->U3 (MapT DD T):=λT=>if h:T=103 then i ⟨.i,.b,h ▸ rfl⟩ else q
def ET:List ((T:Nat)×TyE DD T):=[⟨129,j,[.int .i64,.str,.int .i64,.int .i64],λ(x:qr)=>(x.k_,x.T_,x.N_,x.a_,()),λ(a0,a1,a2,a3,_)=>i (show qr from⟨a0,a1,a2,a3⟩),λx y h=>by cases h;rfl⟩,
 ⟨126,j,[.sl 129,.int .i64],λ(x:q7)=>(x.Z_,x.D_,()),λ(a0,a1,_)=>i (show q7 from⟨a0,a1⟩),λx y h=>by cases h;rfl⟩,
 ⟨78,j,[.int .i64,.str,.int .i64,.int .i64,.sl 78],λ(x:q8)=>(x.k_,x.T_,x.N_,x.a_,x.K_,()),λ(a0,a1,a2,a3,a4,_)=>i (show q8 from⟨a0,a1,a2,a3,a4⟩),λx y h=>by cases h;rfl⟩,
 ⟨240,j,[.str,.int .i64],λ(x:qt)=>(x.n_,x.E_,()),λ(a0,a1,_)=>i (show qt from⟨a0,a1⟩),λx y h=>by cases h;rfl⟩,
 ⟨297,j,[.int .i64,.int .i64,.int .i64],λ(x:qw)=>(x.X_,x.Y_,x.C_,()),λ(a0,a1,a2,_)=>i (show qw from⟨a0,a1,a2⟩),λx y h=>by cases h;rfl⟩,
 ⟨189,j,[.str,.int .i64,.int .i64,.sl 240,.sl 297],λ(x:qa)=>(x.n_,x.S_,x.o_,x.G_,x.J_,()),λ(a0,a1,a2,a3,a4,_)=>i (show qa from⟨a0,a1,a2,a3,a4⟩),λx y h=>by cases h;rfl⟩,
 ⟨9,d,[.str],λ(x:U0)=>(x,()),λ(a0,_)=>i (show U0 from a0),λx y h=>by cases h;rfl⟩,
 ⟨180,j,[.str,.int .i64,.int .i64],λ(x:qj)=>(x.n_,x.M_,x.t_,()),λ(a0,a1,a2,_)=>i (show qj from⟨a0,a1,a2⟩),λx y h=>by cases h;rfl⟩,
 ⟨192,j,[.str,.sl 180,.str,.int .i64,.int .i64],λ(x:qf)=>(x.n_,x.P_,x.R_.n_,x.R_.M_,x.R_.t_,()),λ(a0,a1,a2,a3,a4,_)=>i (show qf from⟨a0,a1,⟨a2,a3,a4⟩⟩),λx y h=>by cases h;rfl⟩,
 ⟨142,j,[.int .i64,.str,.int .i64,.int .i64],λ(x:q9)=>(x.k_,x.T_,x.N_,x.a_,()),λ(a0,a1,a2,a3,_)=>i (show q9 from⟨a0,a1,a2,a3⟩),λx y h=>by cases h;rfl⟩,
 ⟨83,j,[.int .i64,.str,.int .i64,.int .i64,.sl 83],λ(x:q6)=>(x.k_,x.T_,x.N_,x.a_,x.K_,()),λ(a0,a1,a2,a3,a4,_)=>i (show q6 from⟨a0,a1,a2,a3,a4⟩),λx y h=>by cases h;rfl⟩,
 ⟨250,j,[.str,.int .i64],λ(x:qn)=>(x.n_,x.E_,()),λ(a0,a1,_)=>i (show qn from⟨a0,a1⟩),λx y h=>by cases h;rfl⟩,
 ⟨253,j,[.int .i64,.int .i64,.int .i64],λ(x:qu)=>(x.X_,x.Y_,x.C_,()),λ(a0,a1,a2,_)=>i (show qu from⟨a0,a1,a2⟩),λx y h=>by cases h;rfl⟩,
 ⟨198,j,[.str,.int .i64,.int .i64,.sl 250,.sl 253],λ(x:qd)=>(x.n_,x.S_,x.o_,x.G_,x.J_,()),λ(a0,a1,a2,a3,a4,_)=>i (show qd from⟨a0,a1,a2,a3,a4⟩),λx y h=>by cases h;rfl⟩,
 ⟨3,d,[.int .i64],λ(x:Int)=>(x,()),λ(a0,_)=>i (show Int from a0),λx y h=>by cases h;rfl⟩,
 ⟨202,j,[.str,.int .i64,.int .i64],λ(x:qh)=>(x.n_,x.M_,x.t_,()),λ(a0,a1,a2,_)=>i (show qh from⟨a0,a1,a2⟩),λx y h=>by cases h;rfl⟩,
 ⟨204,j,[.str,.sl 202,.str,.int .i64,.int .i64],λ(x:qi)=>(x.n_,x.P_,x.R_.n_,x.R_.M_,x.R_.t_,()),λ(a0,a1,a2,a3,a4,_)=>i (show qi from⟨a0,a1,⟨a2,a3,a4⟩⟩),λx y h=>by cases h;rfl⟩,
 ⟨50,j,[.sl 78,.sl 189,.sl 192,.sl 83,.sl 198,.sl 204],λ(x:q13)=>(x.f_,x.z_,x.s_,x.r_,x.q_,x.U_,()),λ(a0,a1,a2,a3,a4,a5,_)=>i (show q13 from⟨a0,a1,a2,a3,a4,a5⟩),λx y h=>by cases h;rfl⟩,
 ⟨33,j,[.str,.int .i64,.sl 180],λ(x:qe)=>(x.n_,x.P_,x.V_,()),λ(a0,a1,a2,_)=>i (show qe from⟨a0,a1,a2⟩),λx y h=>by cases h;rfl⟩,
 ⟨96,j,[.str,.int .i64],λ(x:qz)=>(x.n_,x.N_,()),λ(a0,a1,_)=>i (show qz from⟨a0,a1⟩),λx y h=>by cases h;rfl⟩,
 ⟨99,j,[.int .i64,.int .i64,.str,.str,.str,.int .i64,.str,.int .i64,.sl 96,.int .i64,.bool],λ(x:ql)=>(x.O_,x.a_,x.X_,x.Y_,x.A_.n_,x.A_.N_,x.B_.n_,x.B_.N_,x.Q_,x.W_,x.H_,()),λ(a0,a1,a2,a3,a4,a5,a6,a7,a8,a9,a10,_)=>i (show ql from⟨a0,a1,a2,a3,⟨a4,a5⟩,⟨a6,a7⟩,a8,a9,a10⟩),λx y h=>by cases h;rfl⟩,
 ⟨30,j,[.str,.sl 9,.sl 99],λ(x:q1j)=>(x.n_,x.P_,x.L_,()),λ(a0,a1,a2,_)=>i (show q1j from⟨a0,a1,a2⟩),λx y h=>by cases h;rfl⟩,
 ⟨64,j,[.str,.int .i64,.sl 202],λ(x:qg)=>(x.n_,x.P_,x.V_,()),λ(a0,a1,a2,_)=>i (show qg from⟨a0,a1,a2⟩),λx y h=>by cases h;rfl⟩,
 ⟨167,j,[.str,.int .i64],λ(x:qp)=>(x.n_,x.N_,()),λ(a0,a1,_)=>i (show qp from⟨a0,a1⟩),λx y h=>by cases h;rfl⟩,
 ⟨170,j,[.int .i64,.int .i64,.str,.str,.str,.int .i64,.str,.int .i64,.sl 167,.int .i64,.bool],λ(x:qq)=>(x.O_,x.a_,x.X_,x.Y_,x.A_.n_,x.A_.N_,x.B_.n_,x.B_.N_,x.Q_,x.W_,x.H_,()),λ(a0,a1,a2,a3,a4,a5,a6,a7,a8,a9,a10,_)=>i (show qq from⟨a0,a1,a2,a3,⟨a4,a5⟩,⟨a6,a7⟩,a8,a9,a10⟩),λx y h=>by cases h;rfl⟩,
 ⟨61,j,[.str,.sl 9,.sl 170],λ(x:q1k)=>(x.n_,x.P_,x.L_,()),λ(a0,a1,a2,_)=>i (show q1k from⟨a0,a1,a2⟩),λx y h=>by cases h;rfl⟩,
 ⟨55,j,[.sl 33,.sl 30,.sl 64,.sl 61],λ(x:q1o)=>(x.f_,x.I_,x.r_,x.g_,()),λ(a0,a1,a2,a3,_)=>i (show q1o from⟨a0,a1,a2,a3⟩),λx y h=>by cases h;rfl⟩,
 ⟨39,j,[.str,.sl 9,.sl 99,.str,.int .i64,.sl 180,.sl 192,.sl 33,.sl 189],λ(x:qm)=>(x.c_.n_,x.c_.P_,x.c_.L_,x.F_.n_,x.F_.P_,x.F_.V_,x.j_,x.w_,x.h_,()),λ(a0,a1,a2,a3,a4,a5,a6,a7,a8,_)=>i (show qm from⟨⟨a0,a1,a2⟩,⟨a3,a4,a5⟩,a6,a7,a8⟩),λx y h=>by cases h;rfl⟩,
 ⟨66,j,[.str,.sl 9,.sl 170,.str,.int .i64,.sl 202,.sl 204,.sl 64,.sl 198],λ(x:q17)=>(x.c_.n_,x.c_.P_,x.c_.L_,x.F_.n_,x.F_.P_,x.F_.V_,x.j_,x.w_,x.h_,()),λ(a0,a1,a2,a3,a4,a5,a6,a7,a8,_)=>i (show q17 from⟨⟨a0,a1,a2⟩,⟨a3,a4,a5⟩,a6,a7,a8⟩),λx y h=>by cases h;rfl⟩,
 ⟨58,d,[.pz 66],λ(x:q17)=>(x,()),λ(a0,_)=>i (show q17 from a0),λx y h=>by cases h;rfl⟩,
 ⟨4,d,[.bool],λ(x:Bool)=>(x,()),λ(a0,_)=>i (show Bool from a0),λx y h=>by cases h;rfl⟩,
 ⟨43,d,[.sl 4],λ(x:(Sl Bool))=>(x,()),λ(a0,_)=>i (show(Sl Bool) from a0),λx y h=>by cases h;rfl⟩,
 ⟨68,d,[.sl 3],λ(x:(Sl Int))=>(x,()),λ(a0,_)=>i (show(Sl Int) from a0),λx y h=>by cases h;rfl⟩]
def CC:Cod:=zAB DD ET GLk glm (zsF zyD) (mp:=zBa zyD) (nst:=λt=>bif m t 68 then 0 else bif m t 64 then 2 else bif m t 43 then 0 else bif m t 33 then 2 else 0) (own:=λt=>m t 68 || m t 64 || m t 43 || m t 33 || false) (bz:=λt=>m t 66 || false)
class Ok(P:Spec CC):Prop where
 o:P.OK prog
class Oks(Γ:List (Spec CC)):Prop where
 o:∀s∈Γ,s.OK prog
instance:Oks []:=⟨yG⟩
instance {P:Spec CC}{Γ:List (Spec CC)}[a:Ok P][b:Oks Γ]:Oks (P::Γ):=⟨zu a.o b.o⟩
theorem okP(P:Spec CC)[a:Ok P]:P.OK prog:=a.o
def od:List Nat->List (Nat×Bool):=List.map λn=>(n / 2,m (n % 2) 1)
def spA(b:Bool)(Γ:List (Spec CC))(f nr:Nat)(fn:Func)(I:Sig)(O:List (XK×Sig))(H:Nat->U3 Hint):Spec CC:=⟨f,nr,I,O,λx=>X9 ⟨b⟩ Γ lpO prog fn nr I O H x⟩
theorem kA {b : Bool} {Γ : List (Spec CC)} {f nr : Nat} {fn : Func} {I : Sig} {O : List (XK × Sig)} {H : Nat -> U3 Hint} [h : Oks Γ] (e : (Tryz.prog.funcs[f]?, (fn.name == "runtime.NumGoroutine"), fn.body.isNone) = (i fn, d, d) := by kernel_rfl) : Ok (spA b Γ f nr fn I O H) :=
 ⟨yE h.o ZG ZF H (Prod.mk.inj e).1 (Prod.mk.inj (Prod.mk.inj e).2).1 (Prod.mk.inj (Prod.mk.inj e).2).2 λx=>rfl⟩
abbrev ii:Sh :=.int .i64
abbrev c0:ESh :=.cell [.sl 192,.sl 189,.row 1,ii,.pr 1 33 0]
abbrev c1:ESh :=.cell [ii,.str,ii,ii,.nils]
abbrev c2:ESh :=.cell [.val 126]
abbrev c3:ESh :=.cell [.row 1,ii,ii,ii,ii]
abbrev c4:ESh :=.cell [.sl 204,.sl 198,.row 1,ii,ii]
abbrev c5:ESh :=.cell [ii,ii,.str,.str,.str,ii,.str,ii,.nils,ii,.bool]
abbrev c6:ESh :=.cell [.val 78]
abbrev c7:ESh :=.cell [.val 83]
abbrev c8:ESh :=.cell [.val 180]
abbrev c9:ESh :=.cell [ii,.str,ii,ii,.row 4]
abbrev c10:ESh :=.cell [.str,ii,ii,.nils,.nils]
abbrev c11:ESh :=.cell [ii]
abbrev c12:ESh :=.cell [.val 202]
abbrev c13:ESh :=.cell [ii,ii,.str,.str,.str,ii,.str,ii,.row 2,ii,.bool]
abbrev c14:ESh :=.cell [ii,ii,.str,.str,.str,ii,.str,ii,.row 3,ii,.bool]
abbrev c15:ESh :=.cell [.sl 192,.sl 189,.row 1,ii,.pnil]
abbrev c16:ESh :=.cell [.str,ii,ii,.row 1,.row 2]
abbrev c17:ESh :=.cell [.str,.nils,.str,ii,ii]
abbrev c18:ESh :=.cell [.row 1,.row 2,ii]
abbrev c19:ESh :=.cell [ii,.str,ii,ii,.row 3]
abbrev c20:ESh :=.cell [.val 142]
abbrev c21:ESh :=.cell [.val 39]
abbrev c22:ESh :=.cell [.str]
abbrev c23:ESh :=.cell [.nils,.nils,.nils,.nils,.nils,.nils]
abbrev c24:ESh :=.cell [.row 1]
abbrev c25:ESh :=.cell [.str,ii,.nils]
abbrev c26:ESh :=.cell [.row 4]
abbrev c27:ESh :=.cell [.str,ii,ii,.row 2,.nils]
abbrev c28:ESh :=.cell [.sl 204,.sl 198,.row 2,ii,ii]
abbrev c29:ESh :=.cell [.nils]
abbrev c30:ESh :=.cell [.row 7]
abbrev c31:ESh :=.cell [.str,ii,ii,.row 6,.nils]
abbrev c32:ESh :=.cell [.row 10,.row 6,ii]
abbrev c33:ESh :=.cell [.str,ii,ii,.row 2,.row 3]
abbrev c34:ESh :=.cell [.str,ii,ii,.row 6,.row 7]
abbrev c35:ESh :=.cell [.str,ii,ii,.row 5,.nils]
abbrev c36:ESh :=.cell [.sl 192,.sl 189,.row 5,ii,.pnil]
abbrev c37:ESh :=.cell [.str,.row 3,.str,ii,ii]
abbrev c38:ESh :=.cell [.row 8]
abbrev c39:ESh :=.cell [.row 6]
abbrev c40:ESh :=.cell [.str,.row 3,.nils]
abbrev c41:ESh :=.cell [ii,.str,ii,ii,.row 2]
abbrev c42:ESh :=.cell [.str,.nils,.nils]
abbrev c43:ESh :=.cell [.row 3,.row 2,ii]
abbrev c44:ESh :=.cell [.row 9]
abbrev c45:ESh :=.cell [.row 5]
abbrev c46:ESh :=.cell [.row 3,ii,ii,ii,ii]
abbrev c47:ESh :=.cell [.val 129]
abbrev c48:ESh :=.cell [.str,ii,ii,.row 7,.nils]
abbrev c49:ESh :=.cell [.str,.row 4,.str,ii,ii]
abbrev c50:ESh :=.cell [.str,.row 5,.str,ii,ii]
abbrev c51:ESh :=.cell [.nils,.nils,.nils,.nils]
abbrev c52:ESh :=.cell [.row 2]
abbrev c53:ESh :=.cell [.str,ii,.row 5]
abbrev c54:ESh :=.cell [.str,ii,.row 1]
abbrev c55:ESh :=.cell [.val 99]
abbrev c56:ESh :=.cell [.row 3]
abbrev c57:ESh :=.cell [.str,ii,ii,.row 4,.nils]
abbrev c58:ESh :=.cell [.row 5,.row 6,ii]
abbrev c59:ESh :=.cell [ii,.str,ii,ii,.row 5]
abbrev c60:ESh :=.cell [.str,ii,.row 7]
abbrev c61:ESh :=.cell [.val 50]
abbrev c62:ESh :=.cell [.row 8,.row 9,ii]
abbrev c63:ESh :=.cell [.str,ii,.row 6]
abbrev c64:ESh :=.cell [ii,ii]
abbrev GF:=XK×Sig
abbrev GG:=List (XK×Sig)
abbrev GH:=List ESh
abbrev GI:=List (Nat×Sh)
def Ja:GF:=(.pan (.ifc 122 (.agg [ii,ii])),⟨[],[c2]⟩)
def Jb:GG:=[(.normal,⟨[(4,.bool)],[]⟩)]
def J1:GH:=[c0,.forow 33]
def Jc:GF:=(.pan (.ifc 148 (.agg [ii,ii])),⟨[],J1⟩)
def HO:Sig:=⟨[],[c0,.orow 33]⟩
def JJ:GF:=(.pan (.ifc 148 (.agg [ii,ii])),HO)
def JV:Sig:=⟨[(0,.pc 0 0),(4,.pc 2 0),(11,.sl 78),(12,ii),(13,ii)],[c0,.orow 33,c8]⟩
def Jd:GG:=[JJ,(.normal,JV)]
def Je:GF:=(.normal,⟨[(0,.pc 0 0),(2,.pc 1 0),(3,.pc 2 0)],[c2,c1,c1]⟩)
def Jf:GH:=[c18,.row 3,.obj 0 103]
def Jg:GG:=[(.ret,⟨[(0,.agg [ii,.str,ii,ii,.row 2])],[c3,.row 142,.row 83]⟩)]
def Jz:GH:=[c3,.row 142,c1,c9,.row 83]
def Jh:GF:=(.normal,⟨[(0,.pc 0 0),(2,.pc 2 0),(5,.pc 3 0)],Jz⟩)
def Ji:GF:=(.pan (.ifc 148 (.agg [ii,ii])),⟨[(6,.pc 1 0),(7,.pc 2 0),(8,.pc 3 0)],[c6,c29,c11,c11]⟩)
def Jj:GF:=(.ret,⟨[(0,.agg [ii,.str,ii,ii,.row 1])],[c2,.row 78]⟩)
def KX:GH:=[c16,.row 240,.row 297]
def Jk:GF:=(.pan (.ifc 183 (.agg [ii,ii])),⟨[],KX⟩)
def Jl:GH:=[c32,c30,c38,c21,c44,.gone,.obj 0 103,.orow 43,.orow 43,.orow 68,.row 3]
def Jm:Sig:=⟨[(0,.pc 0 0)],[c3,.row 142]⟩
def Jn:GF:=(.normal,⟨[(0,.pc 0 0),(4,.pc 2 0)],[c24,.row 99,c14,.row 96]⟩)
def Gq:GH:=[c19,c11,c11,.row 78]
def Hg:Sig:=⟨[(2,.pc 0 0),(3,.pc 1 0),(4,.pc 2 0)],Gq⟩
def Jo:GG:=[(.pan (.ifc 122 (.agg [ii,ii])),Hg),(.normal,⟨[(2,.pc 0 0),(3,.pc 1 0),(4,.pc 2 0),(6,.pc 3 0)],[c9,c11,c11,c2,.row 78]⟩)]
def Jp:GF:=(.normal,⟨[(0,.pc 0 0),(2,.pc 1 0)],[c2,c1]⟩)
def Jq:GF:=(.ret,⟨[(4,.pc 1 0),(5,ii),(6,ii)],[.row 198,c27,.row 250]⟩)
def Jr:GG:=[(.ret,⟨[(0,.bool)],[]⟩)]
def Js:GG:=[(.normal,⟨[(29,.bool)],[]⟩)]
def Jt:GG:=[(.normal,⟨[(2,.pc 0 0),(4,.pc 1 0)],[c5,c13,.row 167]⟩)]
def Ju:Sig:=⟨[(2,.pc 1 0)],[c2,c6]⟩
def HS:GH:=[c15,.forow 33]
def Jv:GF:=(.pan (.ifc 148 (.agg [ii,ii])),⟨[],HS⟩)
def Jw:GG:=[(.ret,⟨[(0,ii)],[]⟩)]
def Jx:GG:=[(.normal,⟨[(2,.pc 0 0),(3,.pc 1 0)],[c5,c13,.row 167]⟩)]
def Jy:Sig:=⟨[(0,.pc 0 0)],[c2]⟩
def Ho:Sig:=⟨[],[c4,.orow 64]⟩
def J0:GG:=[(.ret,⟨[(6,ii)],[c4,.orow 64]⟩),(.normal,Ho)]
def J2:GG:=[(.normal,⟨[(0,.pc 0 0),(6,.pc 2 0)],[c24,.row 99,c14,.row 96]⟩)]
def J3:Sig:=⟨[(4,.pc 0 0),(5,.pc 1 0),(7,.pc 2 0),(12,.pc 3 0),(15,.row 4),(17,ii),(18,.pc 5 0),(19,.pc 6 0),(70,.sl 78),(71,ii),(72,ii)],[c23,c51,c61,c7,.orow 33,.cell [.sl 204,.sl 198,.row 7,ii,ii],.cell [.row 4,.row 8,.row 7,.row 9],.orow 64,.row 30,.row 61]⟩
def J4:GF:=(.ret,⟨[(4,.pc 0 0),(5,ii),(6,ii)],[c17]⟩)
def J5:Sig:=⟨[(3,.pc 0 0),(6,.pc 1 0),(7,.pc 2 0),(8,.pc 3 0),(9,.pc 4 0),(20,.sl 78),(21,ii),(22,ii)],[c6,c29,c11,c11,c36,.orow 33]⟩
def J6:Sig:=⟨[(0,.str),(1,ii),(4,.pc 0 0),(6,.pc 1 0),(7,ii),(13,ii),(14,.bool)],[c20,c20]⟩
def G1:GH:=[c3,.row 142,c1,c1]
def J7:Sig:=⟨[(0,.pc 0 0),(2,.pc 2 0),(3,.pc 3 0)],G1⟩
def J8:GF:=(.pan (.ifc 183 (.agg [ii,ii])),⟨[],[]⟩)
def Hb:GH:=[c4,.forow 64,c12,c12]
def J9:GG:=[(.ret,⟨[(6,.pc 2 0),(7,ii)],[c4,.forow 64,c12]⟩),(.normal,⟨[(6,.pc 2 0),(8,.pc 3 0)],Hb⟩)]
def JA:GG:=[(.normal,⟨[(1,.sl 198),(2,.pc 0 0),(4,.pc 1 0),(6,.pc 2 0)],[c7,c12,c12]⟩)]
def GC:GH:=[c16,.row 240,.row 297,c6,c64]
def JB:Sig:=⟨[(0,.pc 0 0),(2,.sl 78),(4,.pc 3 0),(6,.pc 4 0),(11,.sl 78),(12,ii),(13,ii)],GC⟩
def JC:GF:=(.normal,⟨[(4,.pc 1 0),(7,.row 2),(8,.row 3),(10,.pc 4 0),(16,ii)],[.row 198,c10,.row 83,.row 83,c35,.row 250]⟩)
def JD:GF:=(.normal,⟨[(0,.str),(5,.row 0),(6,ii),(7,.pc 1 0),(8,ii)],[.row 129,c47]⟩)
def JE:Sig:=⟨[(2,.pc 0 0),(8,.pc 1 0),(9,.pc 2 0)],[c1,c46,c9,.row 142,.row 83]⟩
def JF:GH:=[.row 198,c10,.row 83,.row 83,c7,c31,.row 250]
def JG:Sig:=⟨[(2,.pc 0 0),(9,ii),(10,.row 1),(12,ii),(13,.pc 2 0),(19,.row 3),(22,.pc 4 0),(72,.sl 78),(73,ii),(74,ii)],[c23,.row 192,c7,.row 204,.cell [.row 5,.sl 189,.row 1,.row 6,.sl 198,.row 3],.row 78,.row 83]⟩
def Gv:GH:=[c0,.forow 33,c8,c8]
def JH:GF:=(.normal,⟨[(0,.pc 0 0),(4,.pc 2 0),(5,.pc 3 0)],Gv⟩)
def JI:Sig:=⟨[(2,.pc 1 0),(3,.pc 2 0),(4,.pc 3 0)],[c6,c26,c11,c11,.row 189]⟩
def JK:Sig:=⟨[(2,.pc 0 0),(3,.pc 1 0),(4,.pc 2 0),(17,.sl 78),(18,ii),(19,ii)],[c42,c40,c26,.row 9,.row 99]⟩
def JL:Sig:=⟨[(2,.pc 1 0),(3,.pc 2 0),(4,.pc 3 0),(9,.sl 78),(10,ii),(11,ii)],[c6,c26,c11,c11,.row 189]⟩
def JM:GF:=(.ret,⟨[(2,.nils),(3,ii),(4,ii)],[]⟩)
def JN:GI:=[(0,.pc 0 0),(1,.val 78)]
def JO:GH:=[.row 198,c10,.row 83,.row 83,c34,.row 3,.row 250,.row 253]
def JP:Sig:=⟨[(0,ii),(1,.clo 21 [.tup [.pc 0 0]]),(2,.pc 1 0),(3,.pc 2 0),(4,.pc 3 0),(5,.pc 4 0)],[c58,c30,c38,c21,c44,.row 3,.obj 0 103,.orow 43,.orow 43,.orow 68]⟩
def JQ:Sig:=⟨[(0,.sl 189),(3,.pc 0 0),(4,.pc 1 0),(5,.sl 78),(6,.row 2),(7,.pc 3 0),(9,.pc 4 0),(10,ii),(33,.sl 78),(34,ii),(35,ii)],[c6,c10,.row 78,c35,c6,.row 240]⟩
def JR:GG:=[(.normal,⟨[(1,.pc 0 0),(3,.nils),(8,.bool)],[c55]⟩)]
def JS:Sig:=⟨[(6,.pc 1 0),(7,.pc 2 0),(8,.pc 3 0),(9,.pc 4 0),(46,.sl 78),(47,ii),(48,ii)],[c6,c29,c11,c11,.cell [.sl 192,.sl 189,.row 5,ii,.pr 5 33 0],.orow 33]⟩
def JT:Sig:=⟨[],[c52,.gone,.row 99]⟩
def JU:Sig:=⟨[(4,.pc 1 0),(7,.row 2),(8,.row 3),(10,.pc 4 0),(16,ii),(17,ii)],[.row 198,c10,.row 83,.row 83,.cell [.str,ii,ii,.row 5,.row 6],.row 250,.row 253]⟩
def JW:GG:=[(.ret,⟨[(0,.val 83)],[c3,.row 142]⟩)]
def JX:Sig:=⟨[(0,.str)],[]⟩
def JY:GI:=[(0,.pc 0 0),(1,ii)]
def JZ:GG:=[(.ret,⟨[(4,ii)],[c22]⟩),(.exit 0,⟨[],[c22]⟩)]
def Gc:GH:=[.orow 43,.orow 43,.orow 43,.orow 43,.row 39]
def Ka:Sig:=⟨[(10,.row 0),(11,.row 1),(12,.row 2),(13,.row 3),(30,.row 4),(31,ii),(32,ii),(47,ii),(48,ii)],Gc⟩
def Kb:GI:=[(0,.str),(5,.row 0),(6,ii)]
def Kc:Sig:=⟨[(2,.row 0),(3,.row 1),(7,.sl 78),(8,ii),(9,ii)],[.row 78,.row 78]⟩
def Kd:Sig:=⟨[(0,ii),(1,.clo 21 [.tup [.pc 0 0]]),(2,.pc 1 0),(3,.pc 2 0),(12,ii),(53,.nx 9 68),(54,ii),(55,ii),(62,.nx 7 43),(63,ii),(64,ii)],Jl⟩
def Ke:GH:=[c21,c45,c39,c30,.row 3,.orow 43,.orow 43,.orow 68]
def Kf:GH:=[c2,c1,c19,.row 78]
def Kg:Sig:=⟨[(0,.val 78)],[]⟩
def Kh:Sig:=⟨[(0,.sl 189),(3,.pc 0 0),(4,.pc 1 0),(5,.sl 78),(6,.row 2),(7,.pc 3 0),(33,.sl 78),(34,ii),(35,ii)],[c6,c10,.row 78,c57,.row 240]⟩
def Ki:GI:=[(1,ii),(2,.pc 0 0),(5,.row 1),(6,ii)]
def Kj:GF:=(.ret,⟨[(4,.pc 1 0),(5,ii),(6,ii)],[.row 198,c33,.row 250,.row 253]⟩)
def Kk:GF:=(.ret,⟨[(0,.val 78)],[c2]⟩)
def Kl:GF:=(.ret,⟨[(0,.row 1)],[c2,.row 78]⟩)
def Km:GH:=[.row 198,c10,.row 83,.row 83,c7,c48,c7,.row 250]
def Ko:GI:=[(0,.row 0),(1,ii),(2,ii)]
def Kq:Sig:=⟨[(0,.pc 0 0),(1,.pr 1 64 0),(2,.sl 83),(6,ii)],[c4,.orow 64]⟩
def Kr:Sig:=⟨[(1,.sl 189),(2,.pc 0 0),(4,.pc 1 0),(7,.pc 2 0),(8,ii),(11,.pc 3 0),(29,.sl 78),(30,ii),(31,ii)],[c6,c17,c49,c8,.row 180]⟩
def Ks:Sig:=⟨[(0,.pc 0 0),(3,.pc 2 0),(4,.pc 3 0),(5,ii),(6,.pc 4 0),(27,.sl 78),(28,ii),(29,ii)],[c15,.forow 33,c6,c25,c53,.row 180]⟩
def Kt:GI:=[(0,.pc 0 0),(1,.str)]
def Ku:GH:=[c43,.gone,.obj 0 103,.row 3]
def Kx:GG:=[(.normal,⟨[(0,.pc 0 0),(3,.pc 2 0),(4,.pc 3 0),(5,ii),(6,.pc 4 0),(7,ii),(11,.pc 5 0)],[c4,.forow 64,c7,c25,c63,c12,.row 202]⟩)]
def Ky:GF:=(.ret,⟨[(4,.pc 2 0)],[c0,.forow 33,c8]⟩)
def Kz:GG:=[(.ret,⟨[(0,.bool)],[c22]⟩)]
def K0:GG:=[(.normal,⟨[(2,.bool)],[]⟩)]
def K6:GF:=(.ret,⟨[(4,.nils),(5,ii),(6,ii)],[]⟩)
def K7:GF:=(.exit 0,⟨[(5,.row 1)],[c2,.row 78]⟩)
def K8:Sig:=⟨[(0,.str),(1,.str)],[]⟩
def K9:Sig:=⟨[(0,.int .u8)],[]⟩
def KC:Sig:=⟨[(0,ii),(1,.clo 21 [.tup [.pc 0 0]]),(2,.pc 1 0),(3,.pc 2 0),(53,.nx 9 68),(54,ii),(55,ii)],Jl⟩
def KD:GF:=(.normal,⟨[(0,.pc 0 0),(4,.pc 1 0),(5,.pc 2 0)],Kf⟩)
def KE:Sig:=⟨[(0,.val 83)],[]⟩
def KF:Sig:=⟨[(4,.pc 1 0),(7,.row 2),(8,.row 3),(10,.pc 4 0),(16,ii),(17,ii),(18,.row 5),(19,ii)],JO⟩
def KG:Sig:=⟨[(1,.sl 198),(2,.pc 0 0),(4,.pc 1 0),(7,.pc 2 0),(8,ii),(9,ii)],[c7,c17,c37,.row 202]⟩
def KH:Sig:=⟨[(0,.pc 0 0),(4,.pc 2 0),(5,.pc 3 0)],Jz⟩
def KI:GI:=[(0,.pc 0 0),(1,ii),(2,ii)]
def KJ:GG:=[(.ret,⟨[(0,ii)],[.forow 64]⟩)]
def KL:GG:=[(.normal,⟨[(2,.pc 0 0),(3,.pc 1 0)],[c5,c5]⟩)]
def KM:Sig:=⟨[(0,.row 0),(4,.pc 1 0),(7,.row 2),(8,.row 3),(9,.pc 4 0),(10,.pc 5 0),(12,ii)],JF⟩
def KO:Sig:=⟨[(1,.pc 0 0),(2,.pc 1 0),(3,.pc 2 0),(5,.pc 3 0),(6,.row 4),(20,ii),(21,ii)],Ke⟩
def KP:GG:=[(.ret,⟨[(4,ii)],[]⟩),(.exit 0,⟨[],[]⟩)]
def KQ:GF:=(.ret,⟨[(6,ii)],[.forow 64]⟩)
def KR:Sig:=⟨[(0,.val 39),(1,ii)],[]⟩
def KT:GI:=[(0,.pc 0 0),(1,.pc 1 0),(2,.pc 2 0),(3,.nili)]
def KU:Sig:=⟨[(0,.agg [ii,ii,.str,.str,.str,ii,.str,ii,.row 0,ii,.bool])],[.row 167]⟩
def KV:Sig:=⟨[(0,.pc 0 0),(2,.pc 1 0),(3,.pc 2 0),(69,.pc 3 0)],[c2,c1,c1,.cell []]⟩
def KW:GF:=(.normal,⟨[(2,.pc 1 0),(3,.pc 2 0)],Kf⟩)
def KY:GF:=(.ret,⟨[(2,.pc 1 0)],[c2,c41,.row 78]⟩)
def KZ:GG:=[(.ret,⟨[(0,ii)],[c22]⟩)]
def Ha:Sig:=⟨[(1,.sl 189),(7,.row 0),(14,.sl 78),(15,ii),(16,ii)],[.row 192]⟩
def Hc:GG:=[(.normal,⟨[(0,.str),(1,ii),(2,ii),(3,ii),(4,ii),(11,.row 0)],[.row 253]⟩)]
def He:GI:=[(0,.pc 0 0),(1,.pr 1 64 0),(2,.val 83)]
def Hf:GG:=[(.normal,⟨[(0,.pc 0 0),(2,.pc 1 0),(3,.pc 2 0),(18,.bool)],[c2,c1,c1]⟩)]
def Hh:Sig:=⟨[(0,.val 83),(1,.sl 198)],[]⟩
def Hi:Sig:=⟨[(0,.val 78),(1,.sl 189)],[]⟩
def Hj:Sig:=⟨[(0,.str),(1,ii),(4,.pc 0 0),(6,.pc 1 0),(7,ii)],[c20,c20]⟩
def Hk:Sig:=⟨[(3,.row 0),(26,.row 1),(27,ii),(28,ii)],[.row 9,.row 96]⟩
def Hl:Sig:=⟨[(1,.sl 198),(2,.pc 0 0),(7,.row 1),(8,ii)],[c7,.row 204]⟩
def Hm:Sig:=⟨[(0,.str),(1,ii),(2,ii)],[]⟩
def Hn:GH:=[c7,c28,.orow 64]
def Hp:Sig:=⟨[],[c3,.row 142]⟩
def Hq:GG:=[(.ret,⟨[(4,ii)],[.row 180,c8]⟩),(.exit 0,⟨[],[.row 180,c8]⟩)]
def Hs:GH:=[c26,c45,c21,c39,.forow 43,.forow 43,.forow 68,c62,.row 3,.obj 0 103]
def Ht:Sig:=⟨[(0,.pc 0 0),(4,.pc 2 0),(5,.pc 3 0),(7,.bool)],Jz⟩
def Hu:Sig:=⟨[(0,.pc 0 0),(4,.pc 2 0),(5,.pc 3 0),(6,.bool)],Jz⟩
def Hv:Sig:=⟨[(0,.row 0),(1,.clo 116 [.pc 1 0])],[.row 180,c8]⟩
def Hw:Sig:=⟨[(0,.row 0),(1,.clo 114 [.pc 1 0])],[.row 180,c8]⟩
def Hx:Sig:=⟨[(0,.pc 0 0),(3,.pc 1 0),(4,.pc 2 0)],[c2,c6,c1]⟩
def Hy:Sig:=⟨[(0,.ifc 102 (.pc 0 0)),(1,ii),(2,ii),(7,ii)],Jf⟩
def Hz:GH:=[c6,c29,c11,c11,.cell [.sl 192,.sl 189,.row 5,ii,.und],.orow 33]
def H0:GG:=[(.ret,⟨[(4,.row 0)],[.row 3]⟩),(.normal,⟨[(1,ii)],[]⟩)]
def H3:Sig:=⟨[],[c26,c45,c21,c39,.orow 43,.orow 43,.orow 68]⟩
def H4:GF:=(.ret,⟨[],J1⟩)
def H5:Sig:=⟨[(1,.pc 0 0),(5,.row 1),(6,ii)],[c7,.row 198]⟩
def H6:GI:=[(0,.agg [ii,.str,ii,ii,.nils])]
def H7:GG:=[(.ret,⟨[(10,.row 0)],[.row 297]⟩),(.normal,⟨[],[]⟩)]
def H8:Sig:=⟨[(0,.str),(1,ii),(2,ii),(3,ii),(4,ii)],[]⟩
def H9:Sig:=⟨[(0,.sl 78),(1,.clo 153 [.pc 0 0])],[c22]⟩
def HA:GF:=(.ret,⟨[(0,.val 180)],J1⟩)
def HB:GF:=(.normal,⟨[],J1⟩)
def HC:GF:=(.exit 0,⟨[],[.forow 64]⟩)
def HD:Sig:=⟨[(0,.pc 0 0),(2,.pc 2 0),(3,.pc 3 0)],Jz⟩
def HE:Sig:=⟨[(0,.pc 0 0),(2,.pc 1 0),(3,.pc 2 0)],Kf⟩
def HF:GI:=[(0,.pc 0 0),(3,.pc 2 0),(4,.pc 3 0),(5,ii),(6,.pc 4 0)]
def HG:Sig:=⟨[(30,.row 0),(31,ii),(32,ii)],[.row 39]⟩
def HH:Sig:=⟨[(2,.pc 2 0)],[c3,.row 142,c19,.row 83]⟩
def HI:GG:=[(.exit 0,⟨[(1,ii)],[]⟩)]
def HJ:Sig:=⟨[(0,.pr 0 64 0),(1,.str)],[.forow 64]⟩
def HK:GH:=[c7,c17,c50,c7,c12,.row 202]
def HL:Sig:=⟨[(3,.pc 1 0),(4,.pc 2 0)],[c2,c6,c1]⟩
def HM:Sig:=⟨[(3,.pc 0 0),(7,.pc 1 0),(10,ii)],Hn⟩
def HN:Sig:=⟨[(0,.val 202),(1,ii)],[c4,.forow 64]⟩
def HP:Sig:=⟨[(0,.str),(1,ii),(2,.clo 69 [])],[]⟩
def HQ:Sig:=⟨[(0,.str),(1,ii),(2,.clo 65 [])],[]⟩
def HR:Sig:=⟨[(0,.str),(1,ii),(2,.clo 64 [])],[]⟩
def HT:GF:=(.ret,⟨[(4,.bool)],[]⟩)
def HU:Sig:=⟨[(0,.ifc 102 (.pc 0 0)),(1,ii)],Jf⟩
def HV:GI:=[(0,.pc 0 0),(4,.pc 2 0),(5,.pc 3 0),(10,.pc 4 0)]
def HW:GG:=[(.pan (.ifc 183 (.agg [ii,ii])),JI),(.normal,JL)]
def HX:GI:=[(0,.val 180),(1,.pc 0 0)]
def HY:Sig:=⟨[(0,.val 78),(1,.pc 0 0)],[c22]⟩
def HZ:GH:=[.forow 33,c6]
def Ga:GI:=[(4,.pc 0 0),(6,.pc 1 0)]
def Gb:Sig:=⟨[(4,.pc 1 0)],[c2,c41,.row 78]⟩
def Gd:GI:=[(1,.pc 0 0),(2,.pc 1 0),(3,.pc 2 0),(4,ii)]
def Ge:Sig:=⟨[(7,.pc 0 0)],[c4,.orow 64]⟩
def Gf:GH:=[c56,c11,c11,.forow 33]
def Gg:GH:=[c0,.forow 33,c6,c8,c8]
def Gh:Sig:=⟨[(4,.pc 0 0),(5,ii)],[c20]⟩
def Gj:Sig:=⟨[(0,.bool)],[c3,.row 142]⟩
def Gk:Sig:=⟨[(0,.bool)],[.row 180,c8]⟩
def Gl:GH:=[c56,c11,c11,.row 189]
def Gm:GH:=[c4,.forow 64,c7,c25,c60,c7,c12,.row 202]
def Gn:Sig:=⟨[(0,.val 129),(1,ii)],[]⟩
def Gp:Sig:=⟨[(0,.val 83),(1,ii)],[]⟩
def Gs:Sig:=⟨[(0,ii)],[.row 180,c8]⟩
def Gt:Sig:=⟨[(5,.row 0)],[.row 3]⟩
def Gu:Sig:=⟨[(0,.row 0)],[.row 3]⟩
def Gw:GG:=[(.ret,⟨[],Ku⟩)]
def Gx:Sig:=⟨[(0,.str),(1,ii)],[]⟩
def Gy:Sig:=⟨[(0,.ifc 3 (ii))],Ku⟩
def Gz:GG:=[(.normal,J7)]
def G0:Sig:=⟨[(0,.val 129)],[c2]⟩
def G3:GH:=[c24,.row 99,c6,c5]
def G4:Sig:=⟨[(1,ii),(7,ii)],Jf⟩
def G5:GH:=[c4,.forow 64,c7,c25,c53,.row 202]
def G6:Sig:=⟨[],[c4,.forow 64]⟩
def G7:Sig:=⟨[(0,.val 96)],[]⟩
def G8:Sig:=⟨[(0,.pc 0 0)],Jf⟩
def G9:Sig:=⟨[(0,.bool)],[c8]⟩
def GA:Sig:=⟨[(0,.bool)],[c2]⟩
def GB:Sig:=⟨[(0,.bool)],Jf⟩
def GD:GH:=[c4,.orow 64,c7]
def GE:GG:=[(.exit 0,⟨[(3,ii)],[]⟩)]
def P0:=spA d [] 64 1 f64 K9 Jr (hfind [])
instance:Ok P0:=kA
def P1:=spA d [P0] 63 1 f63 HR Jw (hfind [(4,.loop HR HI),(7,.cut [(.normal,⟨[(0,.str),(1,ii),(2,.clo 64 []),(17,.bool)],[]⟩)])])
instance:Ok P1:=kA
def P2:=spA d [] 65 1 f65 K9 Jr (hfind [(3,.cut K0)])
instance:Ok P2:=kA
def P3:=spA d [P2] 63 1 f63 HQ Jw (hfind [(4,.loop HQ HI),(7,.cut [(.normal,⟨[(0,.str),(1,ii),(2,.clo 65 []),(17,.bool)],[]⟩)])])
instance:Ok P3:=kA
def I4:Sig:=Hm
def O4:List (XK×Sig):=[(.ret,⟨[(0,ii),(1,.nili)],[]⟩),(.ret,⟨[(0,ii),(1,.ifc 303 (.und))],[]⟩)]
def F4(x:I4.ty CC):U3 (zg CC O4):=wn x
def P4:Spec CC:=⟨121,2,I4,O4,F4⟩
theorem K4:P4.OK prog:=ziU (fn:=f121) (by kernel_rfl) (by kernel_rfl) (by kernel_rfl) (λs hs v h w=>Tryz.strconv_ParseInt_10_at64_ok s hs v h w) (λs hs h w Z hg hw=>by
    obtain⟨⟨t,p,a⟩,_⟩:=hg
    refine(Tryz.strconv_ParseInt_10_at64_syntax s hs h _ w (hw 0 0 _ a) (.inr ⟨_,_,rfl⟩)).mono ?_
    rintro e w' ⟨N,rfl,_,_,hb⟩
    exact⟨_,rfl,hb⟩) (λs hs h w Z hg hw=>by
    obtain⟨_,t,p,a⟩:=hg
    refine(Tryz.strconv_ParseInt_10_at64_range s hs h _ w (hw 1 0 _ a) (.inr ⟨_,_,rfl⟩)).mono ?_
    rintro e w' ⟨N,rfl,_,_,hb⟩
    exact⟨_,rfl,hb⟩)
instance:Ok P4:=⟨K4⟩
def P5:=spA d [] 67 1 f67 K9 Jr (hfind [(3,.cut K0)])
instance:Ok P5:=kA
def P6:=spA d [P4,P5] 66 2 f66 Hm [(.ret,Gn)] (hfind [(5,.cut [(.normal,⟨[(0,.str),(1,ii),(2,ii),(6,.pc 0 0),(8,.str),(9,ii),(10,.nili)],[c47]⟩),(.normal,⟨[(0,.str),(1,ii),(2,ii),(6,.pc 0 0),(8,.str),(9,ii),(10,.ifc 303 (.und))],[c47]⟩)])])
instance:Ok P6:=kA
def P7:=spA d [P5,P2] 69 1 f69 K9 Jr (hfind [(3,.cut K0)])
instance:Ok P7:=kA
def P8:=spA d [P7] 63 1 f63 HP Jw (hfind [(4,.loop HP HI),(7,.cut [(.normal,⟨[(0,.str),(1,ii),(2,.clo 69 []),(17,.bool)],[]⟩)])])
instance:Ok P8:=kA
def P9:=spA d [] 122 1 f122 JX Jr (hfind [(9,.cut Jb),(13,.cut Jb),(17,.cut Jb),(21,.cut Jb),(25,.cut Jb),(29,.cut Jb),(33,.cut Jb),(37,.cut Jb),(41,.cut Jb),(45,.cut Jb),(49,.cut Jb),(53,.cut Jb),(57,.cut Jb),(61,.cut Jb),(65,.cut Jb),(69,.cut Jb),(73,.cut Jb),(77,.cut Jb),(81,.cut Jb)])
instance:Ok P9:=kA
def P10:=spA d [P9] 68 2 f68 Hm [(.ret,Gn)] (hfind [(15,.cut [(.normal,⟨[(6,.pc 0 0),(8,.pc 1 0)],[c47,c47]⟩)])])
instance:Ok P10:=kA
def P11:=spA d [] 160 1 f160 K8 Jr (hfind [(3,.cut Jb)])
instance:Ok P11:=kA
def P12:=spA d [P11] 123 1 f123 K8 Jr (hfind [])
instance:Ok P12:=kA
def I13:Sig:=⟨[(0,.str),(1,.int .u8)],[]⟩
def O13:List (XK×Sig):=Jw
def F13(x:I13.ty CC):U3 (zg CC O13):=Wa x
def P13:Spec CC:=⟨124,1,I13,O13,F13⟩
theorem K13:P13.OK prog:=zhw (fn:=f124) (by kernel_rfl) (by kernel_rfl) (by kernel_rfl) λs c w=>Tryz.strings_IndexByte s c w
instance:Ok P13:=⟨K13⟩
def P14:=spA d [P12,P13] 70 1 f70 JX [(.ret,JX)] (hfind [(6,.loop ⟨[(0,.str),(5,.agg [.str,.str,.str]),(6,ii)],[]⟩ [(.ret,⟨[(2,.str)],[]⟩),(.exit 0,JX)])])
instance:Ok P14:=kA
def P15:=spA d [P1,P2,P3,P6,P5,P8,P10,P14] 30 3 f30 JX [(.ret,⟨Ko,[.row 129]⟩)] (hfind [(2,.cut [(.ret,⟨[(2,.row 0),(3,ii),(4,ii)],[.row 129]⟩)]),(19,.loop ⟨Kb,[.row 129]⟩ [JM,(.exit 0,⟨[(0,.str),(5,.row 0)],[.row 129]⟩)]),(26,.cut [(.normal,⟨Kb,[.row 129]⟩),JM]),(36,.cut [(.normal,⟨[(0,.str),(5,.row 0),(6,ii),(7,.pc 1 0),(8,ii),(9,.int .u8),(29,.bool)],[.row 129,c47]⟩)]),(37,.cut [(.exit 1,⟨Kb,[.row 129]⟩),JD]),(49,.cut [JD]),(53,.cut [JD]),(59,.cut [JD])])
instance:Ok P15:=kA
def P16:=spA d [] 32 1 f32 Jy [(.ret,G0)] (hfind [])
instance:Ok P16:=kA
def P17:=spA d [P16] 71 1 f71 ⟨Kt,[c2]⟩ [(.ret,GA)] (hfind [(5,.cut [(.normal,⟨[(4,.bool)],[c2]⟩)])])
instance:Ok P17:=kA
def P18:=spA d [P17] 33 1 f33 ⟨Kt,[c2]⟩ [(.ret,GA)] (hfind [])
instance:Ok P18:=kA
def P19:=spA d [P16] 75 0 f75 ⟨JY,[c2]⟩ [Ja] (hfind [])
instance:Ok P19:=kA
def P20:=spA d [P16,P19] 125 1 f125 ⟨JY,[c2]⟩ [Ja,(.ret,G0)] (hfind [])
instance:Ok P20:=kA
def P21:=spA d [P20] 72 1 f72 Jy [Ja,(.ret,⟨H6,[c2]⟩)] (hfind [])
instance:Ok P21:=kA
def P22:=spA d [P18,P19] 35 0 f35 ⟨Kt,[c2]⟩ [Ja,(.ret,⟨[],[c2]⟩)] (hfind [])
instance:Ok P22:=kA
def P23:=spA d [P16,P18,P22,P21] 76 1 f76 Jy [Kk,Ja] (hfind [(14,.cut [Je,Ja]),(20,.cut [Je])])
instance:Ok P23:=kA
def P24:=spA d [P21,P22,P23] 74 1 f74 Jy [Ja,Jj] (hfind [])
instance:Ok P24:=kA
def P25:=spA d [P24,P18] 73 1 f73 ⟨[(0,.pc 0 0),(1,.clo 74 [.tup [.pc 0 0]])],[c2]⟩ [Ja,Kl] (hfind [(6,.loop ⟨[(0,.pc 0 0),(1,.clo 74 [.tup [.pc 0 0]]),(5,.row 1)],[c2,.row 78]⟩ [Ja,K7])])
instance:Ok P25:=kA
def P26:=spA d [] 162 1 f162 ⟨[(0,.val 78),(1,.pc 0 0)],[c11]⟩ [(.ret,⟨[(0,.val 78)],[c11]⟩)] (hfind [])
instance:Ok P26:=kA
def P27:=spA d [P22] 163 1 f163 ⟨JN,[c2]⟩ [Ja,Kk] (hfind [])
instance:Ok P27:=kA
def P28:=spA d [P20] 168 1 f168 ⟨JY,[c2]⟩ [Ja,(.ret,⟨[(0,ii)],[c2]⟩)] (hfind [])
instance:Ok P28:=kA
def P29:=spA d [P21,P22,P28] 164 1 f164 ⟨JY,[c2]⟩ [Ja,(.ret,⟨H6,[c2]⟩)] (hfind [])
instance:Ok P29:=kA
def P30:=spA d [P18,P28] 169 1 f169 ⟨JN,[c2]⟩ [Ja,Kk] (hfind [(6,.cut [Ja,(.normal,HL)]),(10,.cut [Ja,(.normal,HL)])])
instance:Ok P30:=kA
def P31:=spA d [P16,P28,P18,P21,P30] 127 1 f127 Jy [Ja,Kk] (hfind [(8,.cut [Ja,(.ret,⟨[(2,.pc 1 0)],[c2,c1]⟩),Jp]),(20,.cut [Ja,(.normal,Ju)])])
instance:Ok P31:=kA
def P32:=spA d [P18,P19] 128 1 f128 Jy [(.ret,⟨[(0,.str)],[c2]⟩),Ja] (hfind [(6,.loop ⟨[(0,.pc 0 0),(5,.agg [.str,.str,.str]),(6,ii)],[c2]⟩ [(.ret,⟨[(2,.str)],[c2]⟩),(.exit 0,Jy)])])
instance:Ok P32:=kA
def P33:=spA d [P31,P32] 80 1 f80 Jy [Ja,Jj] (hfind [(7,.draw (od [1,3,5,7,9,10,12,15,16]) [])])
instance:Ok P33:=kA
def P34:=spA d [P31,P18] 73 1 f73 ⟨[(0,.pc 0 0),(1,.clo 127 [.tup [.pc 0 0]])],[c2]⟩ [Ja,Kl] (hfind [(6,.loop ⟨[(0,.pc 0 0),(1,.clo 127 [.tup [.pc 0 0]]),(5,.row 1)],[c2,.row 78]⟩ [Ja,K7])])
instance:Ok P34:=kA
def P35:=spA d [P22,P18,P34] 166 1 f166 Jy [Ja,Kl] (hfind [])
instance:Ok P35:=kA
def I36:Sig:=Jy
def O36:List (XK×Sig):=[Ja,Kk]
def H36:Nat->U3 Hint:=hfind [(8,.cut [Ja,(.ret,Ju),Je]),(16,.cut [Ja,(.ret,Ju),Je]),(24,.cut [Ja,(.ret,Ju),Je]),(30,.cut [Je]),(51,.cut [Ja,KY,Je]),(59,.cut [Ja,KY,Je]),(69,.cut [Ja,KY,Je]),(70,.loop KV []),(83,.cut [(.normal,⟨[(0,.pc 0 0),(2,.pc 1 0),(3,.pc 2 0),(4,.str),(5,ii),(69,.pc 3 0),(87,.bool)],[c2,c1,c1,.cell []]⟩)]),(84,.cut [(.pan (.ifc 122 (.agg [ii,ii])),⟨[],[c2,c1,c1,.cell []]⟩),(.ret,⟨[(2,.pc 1 0)],[c2,c9,c1,.cell [],.row 78]⟩),(.normal,KV)]),(88,.draw (od [1,3,5,7,9,10,12,15,16]) [])]
def F36(x:I36.ty CC):U3 (zg CC O36):=zoK ⟨d⟩ [P16,P18,P28,P21,P31,P17,P35,P22,P30] lpO prog f183 1 I36 O36 H36 x
def P36:Spec CC:=⟨183,1,I36,O36,F36⟩
theorem K36:Spec.OK prog P36:=zxl Oks.o ZG ZF H36 (by kernel_rfl) (by kernel_rfl) (by kernel_rfl) λx=>rfl
instance:Ok P36:=⟨K36⟩
def P37:=spA d [P17,P35,P18,P31,P22,P36] 167 1 f167 ⟨JN,[c2]⟩ [Ja,Jj] (hfind [(6,.cut [Ja,(.ret,Gb),(.normal,Hx)]),(16,.cut [Ja,(.ret,Gb),(.normal,Hx)]),(24,.draw (od [1,3,5,6,8,10,13,14]) [])])
instance:Ok P37:=kA
def I38:Sig:=⟨KI,[c2]⟩
def O38:List (XK×Sig):=[Ja,Jj]
def H38:Nat->U3 Hint:=hfind [(7,.draw (od [1,3,5,6,8,10,13,14]) [])]
def I39:Sig:=Jy
def O39:List (XK×Sig):=[Ja,Kk]
def H39:Nat->U3 Hint:=hfind [(10,.cut [Ja,(.ret,Ju),Jp]),(20,.cut [Ja,(.ret,Ju),Jp]),(22,.cut [Ja,(.normal,Ju)]),(26,.cut [Ja,(.ret,Ju),Jp]),(28,.cut [Ja,(.normal,Ju)]),(32,.cut [Ja,(.ret,Ju),Jp]),(38,.cut [Ja,(.normal,⟨[(2,.pc 1 0),(6,.pc 2 0)],Kf⟩)]),(39,.draw (od [1,3,5,6,8,10,13,14]) []),(46,.cut [Ja,(.ret,Ju),Jp]),(52,.cut [Ja,(.ret,Ju),Jp]),(58,.cut [Ja,(.normal,⟨[(0,.pc 0 0),(2,.pc 1 0),(7,.pc 2 0)],Kf⟩)]),(66,.cut [Ja,(.ret,Ju),Jp]),(72,.cut [Ja,(.ret,Ju),Jp]),(82,.cut [Ja,(.normal,Ju)])]
def I40:Sig:=Jy
def O40:List (XK×Sig):=[Ja,Jj]
def H40:Nat->U3 Hint:=hfind [(6,.cut [(.normal,⟨[(0,.pc 0 0),(2,.pc 1 0),(3,.pc 2 0),(16,.bool)],[c2,c1,c1]⟩)]),(16,.loop HE [Ja,(.exit 0,HE)]),(24,.draw (od [1,3,5,6,8,10,13,14]) [])]
def zhF(h:I40.ty CC->U3 (zg CC O40)):Spec CC:=⟨77,1,I40,O40,h⟩
def zll(h:I40.ty CC->U3 (zg CC O40))(x:I38.ty CC):U3 (zg CC O38):=X9 ⟨d⟩ [P33,zhF h] lpO prog f165 1 I38 O38 H38 x
def zyE(h:I40.ty CC->U3 (zg CC O40)):Spec CC:=⟨165,1,I38,O38,zll h⟩
theorem zyF{h:I40.ty CC->U3 (zg CC O40)}(hh:Spec.OK prog (zhF h)):Spec.OK prog (zyE h):=yE (zu (okP P33) (zu hh yG)) ZG ZF H38 (by kernel_rfl) (by kernel_rfl) (by kernel_rfl) λx=>rfl
def zlm(h:I40.ty CC->U3 (zg CC O40))(x:I39.ty CC):U3 (zg CC O39):=X9 ⟨d⟩ [P16,P18,P21,P26,P27,P29,zyE h,zhF h,P17,P31,P35,P37] lpO prog f126 1 I39 O39 H39 x
def zyG(h:I40.ty CC->U3 (zg CC O40)):Spec CC:=⟨126,1,I39,O39,zlm h⟩
theorem zyH{h:I40.ty CC->U3 (zg CC O40)}(hh:Spec.OK prog (zhF h)):Spec.OK prog (zyG h):=yE (zu (okP P16) (zu (okP P18) (zu (okP P21) (zu (okP P26) (zu (okP P27) (zu (okP P29) (zu (zyF hh) (zu hh (zu (okP P17) (zu (okP P31) (zu (okP P35) (zu (okP P37) yG)))))))))))) ZG ZF H39 (by kernel_rfl) (by kernel_rfl) (by kernel_rfl) λx=>rfl
def zoR(h:I40.ty CC->U3 (zg CC O40))(x:I40.ty CC):U3 (zg CC O40):=X9 ⟨d⟩ [P16,P17,P19,P22,P18,zyG h] lpO prog f77 1 I40 O40 H40 x
def zBc(h:I40.ty CC->U3 (zg CC O40)):Spec CC:=⟨77,1,I40,O40,zoR h⟩
theorem zBd{h:I40.ty CC->U3 (zg CC O40)}(hh:Spec.OK prog (zhF h)):Spec.OK prog (zBc h):=yE (zu (okP P16) (zu (okP P17) (zu (okP P19) (zu (okP P22) (zu (okP P18) (zu (zyH hh) yG)))))) ZG ZF H40 (by kernel_rfl) (by kernel_rfl) (by kernel_rfl) λx=>rfl
def zfr:Nat->I40.ty CC->U3 (zg CC O40)
 |0=>λ_=>q
 |k+1=>zoR (zfr k)
theorem zoS:∀k,Spec.OK prog (zhF (zfr k))
 |0=>⟨f77,by kernel_rfl,by kernel_rfl,by kernel_rfl,λx r h=>by cases h⟩
 |k+1=>zBd (zoS k)
def F40(x:I40.ty CC):U3 (zg CC O40):=zfr 100000 x
def P40:Spec CC:=⟨77,1,I40,O40,F40⟩
theorem K40:Spec.OK prog P40:=zoS 100000
instance:Ok P40:=⟨K40⟩
def P41:=spA d [P21,P22,P17,P25,P18,P19,P23,P16,P40] 34 1 f34 ⟨JY,[c2]⟩ [Ja,Jj] (hfind [(11,.cut [Ja,KD]),(21,.cut [Ja,(.normal,⟨[(0,.pc 0 0),(4,.pc 1 0),(5,.pc 2 0),(6,.pc 3 0)],[c2,c1,c9,c6,.row 78]⟩)]),(31,.draw (od [1,3,5,7,8,10,12,15,16]) [])])
instance:Ok P41:=kA
def P42:=spA d [P16,P18,P21,P19] 78 1 f78 Jy [Jj,Ja] (hfind [(9,.cut [(.normal,⟨[(0,.pc 0 0),(2,.pc 1 0),(3,.pc 2 0),(13,.bool)],[c2,c1,c1]⟩)]),(12,.cut [KW,Ja]),(17,.cut Hf),(21,.cut Hf),(24,.cut [Ja,KW])])
instance:Ok P42:=kA
def P43:=spA d [P21,P18,P22] 79 1 f79 Jy [Ja,Jj] (hfind [(9,.cut [Ja,KW])])
instance:Ok P43:=kA
def P44:=spA d [P43,P18] 73 1 f73 ⟨[(0,.pc 0 0),(1,.clo 79 [.tup [.pc 0 0]])],[c2]⟩ [Ja,Kl] (hfind [(6,.loop ⟨[(0,.pc 0 0),(1,.clo 79 [.tup [.pc 0 0]]),(5,.row 1)],[c2,.row 78]⟩ [Ja,K7])])
instance:Ok P44:=kA
def P45:=spA d [P33,P18] 73 1 f73 ⟨[(0,.pc 0 0),(1,.clo 80 [.tup [.pc 0 0]])],[c2]⟩ [Ja,Kl] (hfind [(6,.loop ⟨[(0,.pc 0 0),(1,.clo 80 [.tup [.pc 0 0]]),(5,.row 1)],[c2,.row 78]⟩ [Ja,K7])])
instance:Ok P45:=kA
def P46:=spA d [P21,P42,P18,P44,P22,P45] 36 1 f36 ⟨JY,[c2]⟩ [Ja,Jj] (hfind [(9,.cut [Ja,KD]),(11,.draw (od [1,3,5,7,9,10,12,15,16]) []),(17,.cut [Ja,KD]),(18,.draw (od [1,3,5,7,9,10,12,15,16]) [])])
instance:Ok P46:=kA
def I47:Sig:=Kg
def O47:List (XK×Sig):=Jw
def H47:Nat->U3 Hint:=hfind [(8,.loop ⟨[(3,ii),(7,.sl 78),(8,ii),(9,ii)],[]⟩ GE)]
def ztt(h:I47.ty CC->U3 (zg CC O47)):Spec CC:=⟨37,1,I47,O47,h⟩
def zoT(h:I47.ty CC->U3 (zg CC O47))(x:I47.ty CC):U3 (zg CC O47):=X9 ⟨d⟩ [ztt h] lpO prog f37 1 I47 O47 H47 x
def zBe(h:I47.ty CC->U3 (zg CC O47)):Spec CC:=⟨37,1,I47,O47,zoT h⟩
theorem zBf{h:I47.ty CC->U3 (zg CC O47)}(hh:Spec.OK prog (ztt h)):Spec.OK prog (zBe h):=yE (zu hh yG) ZG ZF H47 (by kernel_rfl) (by kernel_rfl) (by kernel_rfl) λx=>rfl
def zln:Nat->I47.ty CC->U3 (zg CC O47)
 |0=>λ_=>q
 |k+1=>zoT (zln k)
theorem zyI:∀k,Spec.OK prog (ztt (zln k))
 |0=>⟨f37,by kernel_rfl,by kernel_rfl,by kernel_rfl,λx r h=>by cases h⟩
 |k+1=>zBf (zyI k)
def F47(x:I47.ty CC):U3 (zg CC O47):=zln 100000 x
def P47:Spec CC:=⟨37,1,I47,O47,F47⟩
theorem K47:Spec.OK prog P47:=zyI 100000
instance:Ok P47:=⟨K47⟩
def I48:Sig:=⟨[(0,.pc 0 0),(1,.pc 1 0),(2,.pc 2 0),(3,.ifc 122 (.agg [ii,ii]))],Gq⟩
def O48:List (XK×Sig):=[(.ret,⟨[],[c1,c11,c11,.row 78]⟩)]
def H48:Nat->U3 Hint:=hfind [(5,.draw (od [1,3,5,7,9,10,12,14]) [])]
def F48(x:I48.ty CC):U3 (zg CC O48):=zbU ⟨d⟩ [] lpO prog f31 0 I48 O48 H48 x
def P48:Spec CC:=⟨31,0,I48,O48,F48⟩
theorem K48:Spec.OKD prog P48:=Vb yG ZG ZF H48 (by kernel_rfl) (by kernel_rfl) (by kernel_rfl) λx=>rfl
def I49:Sig:=⟨KT,Gq⟩
def O49:List (XK×Sig):=[(.ret,⟨[],Gq⟩)]
def H49:Nat->U3 Hint:=hfind []
def F49(x:I49.ty CC):U3 (zg CC O49):=zbU ⟨d⟩ [] lpO prog f31 0 I49 O49 H49 x
def P49:Spec CC:=⟨31,0,I49,O49,F49⟩
theorem K49:Spec.OKD prog P49:=Vb yG ZG ZF H49 (by kernel_rfl) (by kernel_rfl) (by kernel_rfl) λx=>rfl
def I50:Sig:=JX
def O50:List (XK×Sig):=[(.ret,⟨[(0,.val 78),(1,ii),(2,ii)],[]⟩)]
def H50:Nat->U3 Hint:=hfind [(9,.draw (od [1,3,5,6,8,10]) []),(13,.loop ⟨[(2,.pc 0 0),(3,.pc 1 0),(4,.pc 2 0),(5,.sl 129),(19,.clo 31 [.pc 0 0,.pc 1 0,.pc 2 0])],[c1,c11,c11]⟩ []),(18,.loop ⟨[(2,.pc 0 0),(3,.pc 1 0),(4,.pc 2 0),(6,.pc 3 0)],[c9,c11,c11,c2,.row 78]⟩ [(.pan (.ifc 122 (.agg [ii,ii])),Hg),(.exit 0,Hg)]),(25,.cut Jo),(33,.draw (od [1,3,5,7,11,13,8,14,17,21,9366,22,18]) Jo),(38,.draw (od [1,3,5,7,11,13,8,14,17,21,9366,22,18]) Jo)]
def F50(x:I50.ty CC):U3 (zg CC O50):=zhx ⟨d⟩ [P15,P16,P18,P41,P22,P46,P47] (P49) (P48) lpO prog f14 3 I50 O50 H50 x
def P50:Spec CC:=⟨14,3,I50,O50,F50⟩
theorem K50:Spec.OK prog P50:=zhy Oks.o K49 K48 ZG ZF H50 (by kernel_rfl) (by kernel_rfl) (by kernel_rfl) λx=>rfl
instance:Ok P50:=⟨K50⟩
def P51:=spA d [] 106 2 f106 Kg [(.ret,⟨[(0,.row 0),(1,.row 1)],[.row 78,.row 78]⟩)] (hfind [(6,.loop Kc [(.exit 0,⟨[(2,.row 0),(3,.row 1)],[.row 78,.row 78]⟩)]),(22,.cut [(.normal,Kc)]),(26,.cut [(.normal,Kc)])])
instance:Ok P51:=kA
def P52:=spA d [] 137 1 f137 ⟨[(0,.val 189),(1,.pc 0 0)],[c22]⟩ Kz (hfind [])
instance:Ok P52:=kA
def P53:=spA d [P52] 136 1 f136 ⟨[(0,.sl 189),(1,.clo 137 [.pc 0 0])],[c22]⟩ KZ (hfind [(6,.loop ⟨[(0,.sl 189),(1,.clo 137 [.pc 0 0]),(7,ii),(8,ii)],[c22]⟩ JZ)])
instance:Ok P53:=kA
def P54:=spA d [P53] 91 1 f91 ⟨[(0,.sl 189),(1,.str)],[]⟩ Jw (hfind [])
instance:Ok P54:=kA
def P55:=spA d [] 107 0 f107 ⟨[(0,.bool),(1,.val 78),(2,ii)],[]⟩ [J8,(.ret,⟨[],[]⟩)] (hfind [])
instance:Ok P55:=kA
def P56:=spA d [] 153 1 f153 HY Kz (hfind [])
instance:Ok P56:=kA
def P57:=spA d [P56] 154 1 f154 H9 KZ (hfind [(6,.loop ⟨[(0,.sl 78),(1,.clo 153 [.pc 0 0]),(7,ii),(8,ii)],[c22]⟩ JZ)])
instance:Ok P57:=kA
def P58:=spA d [P57] 152 1 f152 H9 Kz (hfind [])
instance:Ok P58:=kA
def P59:=spA d [P58] 108 1 f108 ⟨[(0,.sl 78),(1,.str)],[]⟩ Jr (hfind [])
instance:Ok P59:=kA
def P60:=spA d [] 155 1 f155 HY Kz (hfind [(3,.cut [(.normal,⟨[(3,.bool)],[c22]⟩)])])
instance:Ok P60:=kA
def P61:=spA d [P60] 154 1 f154 ⟨[(0,.sl 78),(1,.clo 155 [.pc 0 0])],[c22]⟩ KZ (hfind [(6,.loop ⟨[(0,.sl 78),(1,.clo 155 [.pc 0 0]),(7,ii),(8,ii)],[c22]⟩ JZ)])
instance:Ok P61:=kA
def P62:=spA d [P61] 109 1 f109 ⟨[(0,.val 189),(1,.str),(2,.sl 78)],[]⟩ Jw (hfind [])
instance:Ok P62:=kA
def P63:=spA d [] 156 1 f156 ⟨[(0,.sl 9),(1,.str)],[]⟩ Jw (hfind [(6,.loop ⟨[(0,.sl 9),(1,.str),(7,ii),(8,ii)],[]⟩ KP)])
instance:Ok P63:=kA
def P64:=spA d [P63,P62,P55,P54] 110 0 f110 ⟨[(0,.sl 189),(1,.pc 0 0),(2,.val 78),(3,.sl 78),(4,.sl 78)],KX⟩ [Jk,(.ret,⟨[],KX⟩)] (hfind [(10,.cut [(.normal,⟨[(0,.sl 189),(1,.pc 0 0),(3,.sl 78),(4,.sl 78),(7,.pc 3 0),(20,ii),(21,.bool)],[c16,.row 240,.row 297,c6]⟩)]),(13,.cut [Jk,(.normal,⟨[],KX⟩)]),(15,.draw (od [1,3,5,7,9,11,13,15,17,19,20,23,25,26]) []),(16,.draw (od [1,3,5,7,9,11,12]) []),(19,.cut [Jk,(.normal,⟨[],KX⟩)]),(23,.draw (od [1,3,5,7,9,11,13,15,17,19,21,23,25,27,29,31,33,34]) [Jk,(.normal,⟨[(3,.sl 78),(4,.sl 78),(7,.pc 3 0)],[c16,.row 240,.row 297,c6]⟩)])])
instance:Ok P64:=kA
def P65:=spA d [] 157 1 f157 H8 [(.ret,⟨[(0,.row 0)],[.row 297]⟩)] (hfind [(8,.cut H7),(14,.cut H7)])
instance:Ok P65:=kA
def P66:=spA d [P62,P55,P65] 111 0 f111 ⟨[(0,.pc 0 0),(1,.val 78),(2,.sl 78)],KX⟩ [Jk,(.ret,⟨[],[.cell [.str,ii,ii,.row 1,.row 3],.row 240,.gone,.row 297]⟩)] (hfind [(8,.loop JB [Jk,(.exit 0,⟨[(0,.pc 0 0),(4,.pc 3 0),(6,.pc 4 0)],GC⟩)]),(16,.cut [(.normal,JB),Jk]),(26,.draw (od [1,3,5,7,9,11,12,15]) []),(28,.draw (od [1,3,5,7,9,11,13,15,17,19,21,23,25,27,29,31,33,35,37,39,41,43,45,47,49,51,52]) [Jk,(.normal,⟨[(0,.pc 0 0),(2,.sl 78),(4,.pc 3 0),(6,.pc 4 0),(7,ii),(9,ii),(11,.sl 78),(12,ii),(13,ii)],GC⟩)]),(29,.cut [(.normal,JB)]),(31,.draw (od [1,3,5,7,9,11,13,15,17,19,21,23,25,27,29,31,33,35,37,39,41,42,44,47,49,50]) [])])
instance:Ok P66:=kA
def P67:=spA j [P51,P54,P55,P59,P62,P64,P66] 59 1 f59 ⟨[(0,.sl 189),(1,.val 78)],[]⟩ [J8,(.ret,⟨[(0,.agg [.str,ii,ii,.row 0,.row 1])],[.row 240,.row 297]⟩)] (hfind [(7,.draw (od [1,3,5,11,6,9,12]) []),(14,.loop Kh [J8,(.exit 0,⟨[(0,.sl 189),(3,.pc 0 0),(4,.pc 1 0),(5,.sl 78),(6,.row 2),(7,.pc 3 0)],[c6,c10,.row 78,c57,.row 240]⟩)]),(22,.cut [J8,(.normal,Kh)]),(26,.draw (od [1,3,5,7,9,15,10,13,16]) []),(32,.cut [J8,(.normal,JQ)]),(34,.draw (od [1,3,5,7,9,11,13,14,17]) []),(35,.draw (od [1,3,5,7,9,11,13,15,17,19,21,22]) [J8,(.normal,JQ)]),(45,.loop ⟨[(4,.pc 0 0),(5,.sl 78),(7,.pc 1 0),(91,.sl 78),(92,ii),(93,ii)],[c10,c33,.row 240,.row 297]⟩ [J8,(.exit 2,⟨[(4,.pc 0 0),(7,.pc 1 0)],[c10,c33,.row 240,.row 297]⟩)])])
instance:Ok P67:=kA
def I68:Sig:=⟨[(0,.pc 0 0),(1,.pc 1 0),(2,.pc 2 0),(3,.ifc 183 (.agg [ii,ii]))],Gl⟩
def O68:List (XK×Sig):=[(.ret,⟨[],[c29,c11,c11,.row 189]⟩)]
def H68:Nat->U3 Hint:=hfind [(5,.draw (od [1,3,5,7,8,10,12]) [])]
def F68(x:I68.ty CC):U3 (zg CC O68):=zbU ⟨d⟩ [] lpO prog f58 0 I68 O68 H68 x
def P68:Spec CC:=⟨58,0,I68,O68,F68⟩
theorem K68:Spec.OKD prog P68:=Vb yG ZG ZF H68 (by kernel_rfl) (by kernel_rfl) (by kernel_rfl) λx=>rfl
def I69:Sig:=⟨KT,Gl⟩
def O69:List (XK×Sig):=[(.ret,⟨[],Gl⟩)]
def H69:Nat->U3 Hint:=hfind []
def F69(x:I69.ty CC):U3 (zg CC O69):=zbU ⟨d⟩ [] lpO prog f58 0 I69 O69 H69 x
def P69:Spec CC:=⟨58,0,I69,O69,F69⟩
theorem K69:Spec.OKD prog P69:=Vb yG ZG ZF H69 (by kernel_rfl) (by kernel_rfl) (by kernel_rfl) λx=>rfl
def I70:Sig:=Kg
def O70:List (XK×Sig):=[(.ret,⟨Ko,[.row 189]⟩)]
def H70:Nat->U3 Hint:=hfind [(3,.loop ⟨[(1,.pc 0 0),(2,.pc 1 0),(3,.pc 2 0),(4,.pc 3 0),(7,.clo 58 [.pc 1 0,.pc 2 0,.pc 3 0])],[c6,c29,c11,c11]⟩ []),(8,.loop JL [(.pan (.ifc 183 (.agg [ii,ii])),JI),(.exit 0,JI)]),(21,.cut HW),(22,.draw (od [3,5,8198,8200,8,0,10,12,6,8,10,12]) HW)]
def F70(x:I70.ty CC):U3 (zg CC O70):=zhx ⟨d⟩ [P67] (P69) (P68) lpO prog f26 3 I70 O70 H70 x
def P70:Spec CC:=⟨26,3,I70,O70,F70⟩
theorem K70:Spec.OK prog P70:=zhy Oks.o K69 K68 ZG ZF H70 (by kernel_rfl) (by kernel_rfl) (by kernel_rfl) λx=>rfl
instance:Ok P70:=⟨K70⟩
def P71:=spA d [P63,P54] 112 2 f112 Hi [(.ret,⟨[(0,.val 180),(1,ii)],[]⟩)] (hfind [(7,.cut [(.ret,⟨[(4,.pc 0 0),(5,ii)],[c8]⟩),(.normal,⟨Ga,[c8,c8]⟩)])])
instance:Ok P71:=kA
def P72:=spA d [] 114 1 f114 ⟨HX,[c8]⟩ [(.ret,G9)] (hfind [])
instance:Ok P72:=kA
def P73:=spA d [P72] 56 1 f56 Hw [(.ret,Gs)] (hfind [(6,.loop ⟨[(0,.row 0),(1,.clo 114 [.pc 1 0]),(7,ii),(8,ii)],[.row 180,c8]⟩ Hq)])
instance:Ok P73:=kA
def P74:=spA d [P73] 113 1 f113 Hw [(.ret,Gk)] (hfind [])
instance:Ok P74:=kA
def P75:=spA d [] 115 1 f115 ⟨[(0,.val 180),(1,.sl 189)],[]⟩ Jr (hfind [(3,.cut Jb)])
instance:Ok P75:=kA
def P76:=spA d [] 116 1 f116 ⟨HX,[c8]⟩ [(.ret,G9)] (hfind [(3,.cut [(.normal,⟨[(3,.bool)],[c8]⟩)])])
instance:Ok P76:=kA
def P77:=spA d [P76] 56 1 f56 Hv [(.ret,Gs)] (hfind [(6,.loop ⟨[(0,.row 0),(1,.clo 116 [.pc 1 0]),(7,ii),(8,ii)],[.row 180,c8]⟩ Hq)])
instance:Ok P77:=kA
def P78:=spA d [P77] 113 1 f113 Hv [(.ret,Gk)] (hfind [])
instance:Ok P78:=kA
def P79:=spA d [P71,P74,P75,P78] 60 3 f60 Hi [(.ret,⟨[(0,.val 192),(1,ii),(2,ii)],[]⟩)] (hfind [(11,.draw (od [1,3,5,6,9,11]) []),(18,.loop ⟨[(1,.sl 189),(2,.pc 0 0),(4,.pc 1 0),(7,.pc 2 0),(8,ii),(29,.sl 78),(30,ii),(31,ii)],[c6,c17,c37,.row 180]⟩ [J4,(.exit 0,⟨[(1,.sl 189),(2,.pc 0 0),(4,.pc 1 0),(7,.pc 2 0),(8,ii)],[c6,c17,c37,.row 180]⟩)]),(37,.cut [J4,(.normal,Kr)]),(39,.draw (od [1,3,5,6,9,11]) []),(43,.cut [J4,(.normal,Kr)]),(45,.draw (od [1,3,5,7,9,11,13,14,17,19]) []),(48,.cut [(.normal,⟨[(1,.sl 189),(2,.pc 0 0),(4,.pc 1 0),(7,.pc 2 0),(8,ii),(10,.pc 3 0),(11,.pc 4 0),(29,.sl 78),(30,ii),(31,ii),(65,.bool)],[c6,c17,c50,c6,c8,.row 180]⟩)]),(51,.draw (od [1,3,5,7,9,11,12,15,17]) []),(65,.draw (od [1,3,5,7,9,11,13,15,16,19,21]) [])])
instance:Ok P79:=kA
def P80:=spA d [P79] 27 3 f27 Hi [(.ret,⟨Ko,[.row 192]⟩)] (hfind [(8,.loop Ha [K6,(.exit 0,⟨[(7,.row 0)],[.row 192]⟩)]),(16,.cut [(.normal,Ha),K6])])
instance:Ok P80:=kA
def P81:=spA d [] 129 1 f129 K9 Jr (hfind [(3,.cut K0)])
instance:Ok P81:=kA
def P82:=spA d [] 130 1 f130 K9 Jr (hfind [(3,.cut K0)])
instance:Ok P82:=kA
def P83:=spA d [] 131 1 f131 JX Jr (hfind [(9,.cut Jb),(13,.cut Jb),(17,.cut Jb),(21,.cut Jb),(25,.cut Jb),(29,.cut Jb),(33,.cut Jb),(37,.cut Jb),(41,.cut Jb),(45,.cut Jb),(49,.cut Jb),(53,.cut Jb),(57,.cut Jb),(61,.cut Jb),(65,.cut Jb),(69,.cut Jb),(73,.cut Jb),(77,.cut Jb),(81,.cut Jb)])
instance:Ok P83:=kA
def P84:=spA d [] 132 1 f132 Gx Jw (hfind [(7,.cut [(.normal,⟨[(0,.str),(1,ii),(5,.str)],[]⟩)]),(12,.cut [(.normal,⟨[(0,.str),(1,ii),(25,.bool)],[]⟩)]),(25,.cut Js),(29,.cut Js),(33,.cut Js),(37,.cut Js),(41,.cut Js),(45,.cut Js),(49,.cut Js),(53,.cut Js),(57,.cut Js),(61,.cut Js),(65,.cut Js),(69,.cut Js),(73,.cut Js)])
instance:Ok P84:=kA
def P85:=spA d [P81,P82,P83,P84] 81 2 f81 Gx [(.ret,⟨[(0,.val 142),(1,ii)],[]⟩)] (hfind [(13,.cut [(.ret,Gh),(.normal,⟨[(0,.str),(1,ii),(4,.pc 0 0),(6,.pc 1 0),(7,ii),(9,.bool)],[c20,c20]⟩)]),(16,.loop Hj [(.exit 0,Hj)]),(30,.cut [(.normal,⟨[(0,.str),(1,ii),(4,.pc 0 0),(6,.pc 1 0),(7,ii),(47,.bool)],[c20,c20]⟩)]),(52,.cut [(.normal,⟨Ga,[c20,c20]⟩)]),(62,.cut [(.ret,Gh),(.normal,⟨[(0,.str),(1,ii),(4,.pc 0 0),(6,.pc 1 0)],[c20,c20]⟩)]),(69,.loop J6 [(.exit 2,J6)]),(88,.cut [(.normal,J6)]),(94,.cut [(.normal,J6)]),(103,.cut [(.normal,⟨[(0,.str),(1,ii),(4,.pc 0 0),(6,.pc 1 0),(7,ii),(13,ii),(14,.bool),(16,.bool)],[c20,c20]⟩)]),(108,.cut [(.normal,⟨[(0,.str),(1,ii),(4,.pc 0 0),(6,.pc 1 0),(7,ii),(13,ii),(115,.bool)],[c20,c20]⟩)])])
instance:Ok P85:=kA
def P86:=spA d [P85] 38 3 f38 JX [(.ret,⟨Ko,[.row 142]⟩)] (hfind [(16,.loop ⟨Kb,[.row 142]⟩ [JM,(.exit 0,⟨[(0,.str),(5,.row 0)],[.row 142]⟩)]),(23,.cut [(.normal,⟨Kb,[.row 142]⟩),JM]),(26,.cut [(.normal,⟨[(0,.str),(5,.row 0),(6,ii),(25,.bool)],[.row 142]⟩)]),(38,.loop ⟨Kb,[.row 142]⟩ [(.exit 2,⟨Kb,[.row 142]⟩)]),(41,.cut [(.normal,⟨[(0,.str),(5,.row 0),(6,ii),(41,.bool)],[.row 142]⟩)])])
instance:Ok P86:=kA
def P87:=spA d [] 82 1 f82 ⟨Kt,[c3,.row 142]⟩ [(.ret,Gj)] (hfind [(3,.draw (od [1,3,5,7,9,11,13,15,17,19,21,23]) []),(5,.draw (od [1,3,5,7,9,11,13,15,17,19,21,23,25,27,29,31,33,35,37,39,41,43,45,47,49,51,53,55,57]) [(.normal,⟨[(4,.bool)],[c3,.row 142]⟩)])])
instance:Ok P87:=kA
def P88:=spA d [P87] 39 1 f39 ⟨Kt,[c3,.row 142]⟩ [(.ret,Gj)] (hfind [(7,.cut [(.normal,⟨[(5,.bool)],[c3,.row 142]⟩)])])
instance:Ok P88:=kA
def P89:=spA d [] 85 0 f85 ⟨JY,[c3,.row 142]⟩ [(.ret,Hp)] (hfind [(2,.cut [(.normal,Hp)]),(5,.draw (od [1,3,5,7,9,11,13,15,17,19,21,23,25,27,28]) [])])
instance:Ok P89:=kA
def P90:=spA d [P89] 83 1 f83 Jm [(.ret,⟨H6,[c3,.row 142]⟩)] (hfind [(3,.draw (od [1,3,5,7,9,11,13,15,17,19,20,22]) []),(6,.cut [(.normal,⟨[(0,.pc 0 0),(2,.pc 2 0),(3,.pc 3 0),(23,.bool)],[c3,.row 142,c1,c20]⟩)])])
instance:Ok P90:=kA
def P91:=spA d [P88,P89] 41 0 f41 ⟨Kt,[c3,.row 142]⟩ [(.ret,Hp)] (hfind [(4,.cut [(.normal,Hp)])])
instance:Ok P91:=kA
def P92:=spA d [P88,P91,P90] 84 1 f84 Jm JW (hfind [(3,.draw (od [1,3,5,7,9,11,13,15,17,19,21,23,25,27,29,31,33,35,37,39,41,43,45,46,48]) []),(19,.cut Gz),(26,.cut Gz)])
instance:Ok P92:=kA
def P93:=spA d [P89] 171 1 f171 Jm [(.ret,⟨[(0,ii)],[c3,.row 142]⟩)] (hfind [(3,.draw (od [1,3,5,7,9,11,13,15,17,19,20,22]) []),(6,.cut [(.normal,⟨[(0,.pc 0 0),(3,.pc 2 0),(23,.bool)],[c3,.row 142,c20]⟩)])])
instance:Ok P93:=kA
def P94:=spA d [P88,P93] 174 1 f174 ⟨[(0,.pc 0 0),(1,.val 83)],[c3,.row 142]⟩ JW (hfind [(19,.cut [(.normal,⟨[(3,.pc 2 0),(4,.pc 3 0)],[c3,.row 142,c7,c1]⟩)])])
instance:Ok P94:=kA
def P95:=spA d [P93,P88,P90,P94] 134 1 f134 Jm JW (hfind [(3,.draw (od [1,3,5,7,9,11,13,15,17,19,21,23]) []),(6,.draw (od [1,3,5,7,9,11,13,15,17,19,21,23]) [])])
instance:Ok P95:=kA
def P96:=spA d [P88,P89] 135 1 f135 Jm [(.ret,⟨[(0,.str)],[c3,.row 142]⟩)] (hfind [(8,.loop ⟨[(0,.pc 0 0),(3,.row 2),(4,ii)],[c3,.row 142,.row 9]⟩ [(.ret,⟨[(2,.str)],[c3,.row 142]⟩),(.exit 0,Jm)])])
instance:Ok P96:=kA
def P97:=spA d [P95,P96] 89 1 f89 Jm Jg (hfind [])
instance:Ok P97:=kA
def P98:=spA d [P91,P88,P95] 172 1 f172 Jm [(.ret,⟨[(0,.row 2)],[c3,.row 142,.row 83]⟩)] (hfind [(8,.cut [(.normal,⟨[(0,.pc 0 0),(18,.bool)],[c3,.row 142]⟩)]),(20,.loop ⟨[(0,.pc 0 0),(4,.pc 2 0),(5,.row 3)],[c3,.row 142,c7,.row 83]⟩ [(.exit 0,⟨[(0,.pc 0 0),(5,.row 2)],[c3,.row 142,.row 83]⟩)])])
instance:Ok P98:=kA
def P99:=spA d [P88,P93,P90,P95,P87,P98,P91,P94] 184 1 f184 Jm JW (hfind [(3,.draw (od [1,3,5,7,9,11,13,15,17,19,21,23,24,26]) []),(47,.cut Gz),(60,.draw (od [1,3,5,7,9,11,13,15,17,19,21,23]) []),(106,.draw (od [1,3,5,7,9,11,13,15,17,19,21,23,25,27,29,31,33,35,37]) [(.normal,⟨[(0,.pc 0 0),(2,.pc 2 0),(3,.pc 3 0),(14,.bool),(119,.bool)],G1⟩)]),(117,.cut [(.normal,⟨[(2,.pc 2 0),(16,.pc 3 0)],Jz⟩)])])
instance:Ok P99:=kA
def zlo:=spA d [P90,P87,P98,P88,P95,P91,P99] 173 1 f173 Jm Jg (hfind [])
instance:Ok zlo:=kA
def zlp:Sig:=⟨KI,[c3,.row 142]⟩
def zlq:List (XK×Sig):=Jg
def zyJ:Nat->U3 Hint:=hfind []
def zlr:Sig:=Jm
def zls:List (XK×Sig):=Jg
def zyK:Nat->U3 Hint:=hfind [(3,.draw (od [1,3,5,7,9,11,13,15,17,19,21,23]) []),(8,.draw (od [1,3,5,7,9,11,13,15,17,19,21,23]) []),(9,.cut [(.normal,⟨[(0,.pc 0 0),(2,.pc 2 0),(3,ii),(4,.str)],[c3,.row 142,c1]⟩)]),(10,.draw (od [1,3,5,7,9,11,13,15,17,19,21,23]) []),(20,.cut [(.ret,HH),Jh]),(32,.cut [(.normal,⟨[(2,.pc 2 0),(5,.pc 3 0),(6,.pc 4 0)],[c3,.row 142,c1,c59,.cell [ii,.str,ii,ii,.row 6],.row 83,.row 83]⟩)]),(50,.cut [Jh]),(61,.cut [(.normal,⟨[(0,.pc 0 0),(2,.pc 2 0),(4,.str),(5,.pc 3 0),(49,.str),(108,.bool)],G1⟩)]),(64,.cut [Jh]),(74,.cut [(.normal,⟨[(0,.pc 0 0),(2,.pc 2 0),(5,.pc 3 0),(9,.pc 4 0)],[c3,.row 142,c1,c1,c1]⟩)]),(86,.cut [Jh]),(95,.cut [Jh]),(102,.cut [Jh]),(108,.cut [Jh])]
def XF:Sig:=Jm
def XG:List (XK×Sig):=Jg
def zyL:Nat->U3 Hint:=hfind [(3,.draw (od [1,3,5,7,9,11,13,15,17,19,21,23,24,26]) []),(8,.cut [(.normal,⟨[(0,.pc 0 0),(2,.pc 2 0),(3,.pc 3 0),(28,.bool)],G1⟩)]),(9,.cut Gz),(18,.loop HD [(.exit 0,HD)])]
def zd7(h:XF.ty CC->U3 (zg CC XG)):Spec CC:=⟨86,1,XF,XG,h⟩
def zgk(h:XF.ty CC->U3 (zg CC XG))(x:zlp.ty CC):U3 (zg CC zlq):=X9 ⟨d⟩ [P97,zd7 h] lpO prog f170 1 zlp zlq zyJ x
def zvo(h:XF.ty CC->U3 (zg CC XG)):Spec CC:=⟨170,1,zlp,zlq,zgk h⟩
theorem zvp{h:XF.ty CC->U3 (zg CC XG)}(hh:Spec.OK prog (zd7 h)):Spec.OK prog (zvo h):=yE (zu (okP P97) (zu hh yG)) ZG ZF zyJ (by kernel_rfl) (by kernel_rfl) (by kernel_rfl) λx=>rfl
def zgl(h:XF.ty CC->U3 (zg CC XG))(x:zlr.ty CC):U3 (zg CC zls):=X9 ⟨d⟩ [zvo h,P88,zd7 h,P90,P91,P93,P87,P95,P98,zlo] lpO prog f133 1 zlr zls zyK x
def zvq(h:XF.ty CC->U3 (zg CC XG)):Spec CC:=⟨133,1,zlr,zls,zgl h⟩
theorem zvr{h:XF.ty CC->U3 (zg CC XG)}(hh:Spec.OK prog (zd7 h)):Spec.OK prog (zvq h):=yE (zu (zvp hh) (zu (okP P88) (zu hh (zu (okP P90) (zu (okP P91) (zu (okP P93) (zu (okP P87) (zu (okP P95) (zu (okP P98) (zu (okP zlo) yG)))))))))) ZG ZF zyK (by kernel_rfl) (by kernel_rfl) (by kernel_rfl) λx=>rfl
def zi1(h:XF.ty CC->U3 (zg CC XG))(x:XF.ty CC):U3 (zg CC XG):=X9 ⟨d⟩ [P87,P89,P91,P88,zvq h] lpO prog f86 1 XF XG zyL x
def zAD(h:XF.ty CC->U3 (zg CC XG)):Spec CC:=⟨86,1,XF,XG,zi1 h⟩
theorem zAE{h:XF.ty CC->U3 (zg CC XG)}(hh:Spec.OK prog (zd7 h)):Spec.OK prog (zAD h):=yE (zu (okP P87) (zu (okP P89) (zu (okP P91) (zu (okP P88) (zu (zvr hh) yG))))) ZG ZF zyL (by kernel_rfl) (by kernel_rfl) (by kernel_rfl) λx=>rfl
def zb3:Nat->XF.ty CC->U3 (zg CC XG)
 |0=>λ_=>q
 |k+1=>zi1 (zb3 k)
theorem zi2:∀k,Spec.OK prog (zd7 (zb3 k))
 |0=>⟨f86,by kernel_rfl,by kernel_rfl,by kernel_rfl,λx r h=>by cases h⟩
 |k+1=>zAE (zi2 k)
def zyO(x:XF.ty CC):U3 (zg CC XG):=zb3 100000 x
def ztu:Spec CC:=⟨86,1,XF,XG,zyO⟩
theorem zBk:Spec.OK prog ztu:=zi2 100000
instance:Ok ztu:=⟨zBk⟩
def ztv:=spA d [P90,P91,P88,P92,P87,P89,ztu] 40 1 f40 ⟨JY,[c3,.row 142]⟩ Jg (hfind [(14,.loop Hu [(.exit 0,KH)]),(17,.cut [(.normal,⟨[(0,.pc 0 0),(4,.pc 2 0),(5,.pc 3 0),(6,.bool),(31,.bool)],Jz⟩)]),(38,.cut [(.normal,Hu)]),(44,.draw (od [1,3,5,7,9,11,13,15,17,19,21,23,24,26]) []),(50,.cut [(.normal,⟨HV,[c3,.row 142,c1,c59,c7,.row 83]⟩)]),(56,.cut [(.normal,⟨HV,[c3,.row 142,c1,c59,c1,.row 83]⟩)])])
instance:Ok ztv:=kA
def ztw:=spA d [P88,P90,P89] 87 1 f87 Jm JW (hfind [(3,.draw (od [1,3,5,7,9,11,13,15,17,19,21,23,25,27,29,31,33,35,37,39,41,43,45,46,48]) []),(30,.loop ⟨[(0,.pc 0 0),(2,.pc 2 0),(3,.pc 3 0),(6,.row 4),(7,ii)],[c3,.row 142,c1,c1,.row 9]⟩ [(.ret,HH),(.exit 0,J7)])])
instance:Ok ztw:=kA
def ztx:=spA d [P90,P88,P91] 88 1 f88 Jm Jg (hfind [(11,.cut [(.normal,⟨[(2,.pc 2 0),(3,.pc 3 0)],Jz⟩)])])
instance:Ok ztx:=kA
def zty:=spA d [P90,ztw,P88,ztx,P91,P97] 42 1 f42 ⟨JY,[c3,.row 142]⟩ Jg (hfind [(16,.loop Ht [(.exit 0,KH)]),(32,.cut [(.normal,Ht)]),(39,.loop ⟨[(0,.pc 0 0),(4,.pc 2 0),(5,.pc 3 0),(9,.bool)],Jz⟩ [(.exit 2,KH)])])
instance:Ok zty:=kA
def VD:Sig:=KE
def VE:List (XK×Sig):=Jw
def zyP:Nat->U3 Hint:=hfind [(8,.loop ⟨[(1,.pc 0 0),(3,ii),(4,ii)],[c7]⟩ GE)]
def zoU(h:VD.ty CC->U3 (zg CC VE)):Spec CC:=⟨43,1,VD,VE,h⟩
def zi3(h:VD.ty CC->U3 (zg CC VE))(x:VD.ty CC):U3 (zg CC VE):=X9 ⟨d⟩ [zoU h] lpO prog f43 1 VD VE zyP x
def zAF(h:VD.ty CC->U3 (zg CC VE)):Spec CC:=⟨43,1,VD,VE,zi3 h⟩
theorem zAG{h:VD.ty CC->U3 (zg CC VE)}(hh:Spec.OK prog (zoU h)):Spec.OK prog (zAF h):=yE (zu hh yG) ZG ZF zyP (by kernel_rfl) (by kernel_rfl) (by kernel_rfl) λx=>rfl
def zgm:Nat->VD.ty CC->U3 (zg CC VE)
 |0=>λ_=>q
 |k+1=>zi3 (zgm k)
theorem zvs:∀k,Spec.OK prog (zoU (zgm k))
 |0=>⟨f43,by kernel_rfl,by kernel_rfl,by kernel_rfl,λx r h=>by cases h⟩
 |k+1=>zAG (zvs k)
def zyQ(x:VD.ty CC):U3 (zg CC VE):=zgm 100000 x
def ztz:Spec CC:=⟨43,1,VD,VE,zyQ⟩
theorem zBl:Spec.OK prog ztz:=zvs 100000
instance:Ok ztz:=⟨zBl⟩
def zoV:=spA d [P86,P88,ztv,P91,zty,ztz] 15 3 f15 JX [(.ret,⟨[(0,.val 83),(1,ii),(2,ii)],[]⟩)] (hfind [(18,.loop JE [(.exit 0,JE)]),(21,.draw (od [1,3,5,7,9,11,13,15,17,19,21,23,25,27,29,31,33,35,37]) [(.normal,⟨[(2,.pc 0 0),(8,.pc 1 0),(9,.pc 2 0),(48,.bool)],[c1,c46,c9,.row 142,.row 83]⟩)]),(25,.cut [(.normal,JE)]),(27,.draw (od [1,3,5,7,9,11,13,15,17,19,21,23]) []),(44,.cut [(.normal,JE)]),(54,.draw (od [1,3,5,7,9,11,13,15,17,18,21,23]) [])])
instance:Ok zoV:=kA
def zoW:=spA d [] 117 1 f117 Gp [(.ret,⟨[(0,.row 0)],[.row 83]⟩)] (hfind [(8,.loop ⟨Ki,[c7,.row 83]⟩ [(.exit 0,⟨[(5,.row 0)],[.row 83]⟩)]),(19,.cut [(.normal,⟨Ki,[c7,.row 83]⟩)])])
instance:Ok zoW:=kA
def zhG:=spA d [] 100 1 f100 ⟨[(0,.sl 198),(1,.str)],[]⟩ Jw (hfind [(6,.loop ⟨[(0,.sl 198),(1,.str),(5,ii)],[]⟩ KP)])
instance:Ok zhG:=kA
def zoX:=spA d [] 118 1 f118 ⟨[(0,.sl 83),(1,.str)],[]⟩ Jw (hfind [(6,.loop ⟨[(0,.sl 83),(1,.str),(5,ii)],[]⟩ KP),(16,.cut [(.normal,⟨[(0,.sl 83),(1,.str),(5,ii),(27,.bool)],[]⟩)])])
instance:Ok zoX:=kA
def zoY:=spA d [] 119 1 f119 H8 [(.ret,⟨[(0,.row 0)],[.row 253]⟩)] (hfind [(7,.cut Hc),(12,.cut [(.normal,⟨[(0,.str),(1,ii),(2,ii),(3,ii),(4,ii),(11,.row 0),(29,.bool)],[.row 253]⟩)]),(13,.cut Hc),(19,.cut [(.normal,⟨[(11,.row 0)],[.row 253]⟩)])])
instance:Ok zoY:=kA
def ztA:=spA d [zoW,zhG,zoX,zoY] 61 3 f61 ⟨[(0,.row 0),(1,.val 83)],[.row 198]⟩ [(.ret,⟨[(0,.val 198),(1,ii),(2,ii)],[.row 198]⟩)] (hfind [(17,.draw (od [1,3,5,6,9,11]) []),(25,.draw (od [1,3,5,6,9,11]) []),(32,.loop KM [Jq,(.exit 0,⟨[(0,.row 0),(4,.pc 1 0),(7,.row 2),(8,.row 3),(9,.pc 4 0),(10,.pc 5 0)],JF⟩)]),(40,.cut [Jq,(.normal,KM)]),(47,.loop ⟨[(0,.row 0),(4,.pc 1 0),(7,.row 2),(8,.row 3),(9,.pc 4 0),(10,.pc 5 0),(12,ii),(13,.pc 6 0),(14,ii)],Km⟩ [Jq,(.exit 2,⟨[(0,.row 0),(4,.pc 1 0),(7,.row 2),(8,.row 3),(9,.pc 4 0),(10,.pc 5 0),(12,ii),(13,.pc 6 0)],Km⟩)]),(57,.draw (od [1,3,5,7,9,11,13,15]) []),(60,.draw (od [1,3,5,6,9,11]) []),(69,.cut [Jq,(.normal,⟨[(0,.row 0),(4,.pc 1 0),(7,.row 2),(8,.row 3),(9,.pc 4 0),(10,.pc 5 0),(12,ii),(13,.pc 6 0),(15,ii)],Km⟩)]),(73,.cut [(.normal,⟨[(0,.row 0),(4,.pc 1 0),(7,.row 2),(8,.row 3),(9,.pc 4 0),(10,.pc 5 0),(12,ii),(13,.pc 6 0),(15,ii),(93,.bool)],Km⟩)]),(76,.draw (od [1,3,5,6,9,11]) []),(90,.cut [JC,Jq]),(95,.cut [(.normal,⟨[(0,.row 0),(4,.pc 1 0),(7,.row 2),(8,.row 3),(9,.pc 4 0),(10,.pc 5 0),(16,ii),(107,.str),(111,.bool)],JF⟩)]),(98,.cut [Jq,JC]),(104,.cut [(.normal,⟨[(4,.pc 1 0),(7,.row 2),(8,.row 3),(9,.pc 4 0),(10,.pc 5 0)],JF⟩)]),(114,.draw (od [1,3,5,6,9,11]) []),(120,.cut [Jq,JC]),(130,.draw (od [1,3,5,6,9,11]) []),(138,.draw (od [1,3,5,6,9,11]) []),(142,.cut [(.normal,⟨[(4,.pc 1 0),(7,.row 2),(8,.row 3),(9,.pc 4 0),(10,.pc 5 0),(16,ii),(167,.bool)],JF⟩)]),(145,.draw (od [1,3,5,6,9,11]) []),(153,.loop JU [Kj,(.exit 5,⟨[(4,.pc 1 0),(10,.pc 2 0)],[.row 198,c10,.cell [.str,ii,ii,.row 3,.row 4],.row 250,.row 253]⟩)]),(168,.loop KF [Kj,(.exit 7,⟨[(4,.pc 1 0),(7,.row 2),(8,.row 3),(10,.pc 4 0),(16,ii),(17,ii),(18,.row 5)],JO⟩)]),(176,.cut [(.normal,KF),Kj]),(189,.cut [(.normal,⟨[(4,.pc 1 0),(7,.row 2),(8,.row 3),(10,.pc 4 0),(16,ii),(17,ii),(18,.row 5),(19,ii),(21,ii),(202,.bool)],JO⟩)]),(192,.draw (od [1,3,5,7,9,11,12,15,17]) []),(198,.draw (od [1,3,5,7,9,11,13,15,17,19,21,23,25,27,29,31,33,35,37,39,41,43,45,47,49,51,53,54,57]) []),(202,.loop ⟨[(4,.pc 1 0),(7,.row 2),(8,.row 3),(10,.pc 4 0),(16,ii),(17,ii),(22,.row 5),(23,ii)],[.row 198,c10,.row 83,.row 83,c34,.row 253,.row 250,.row 253]⟩ [(.exit 9,JU)]),(211,.draw (od [1,3,5,7,9,11,12,14,17,18]) [])])
instance:Ok ztA:=kA
def ztB:=spA d [ztA] 28 3 f28 KE [(.ret,⟨Ko,[.row 198]⟩)] (hfind [(8,.loop H5 [JM,(.exit 0,⟨[(5,.row 0)],[.row 198]⟩)]),(16,.cut [(.normal,H5),JM])])
instance:Ok ztB:=kA
def ztC:=spA d [zhG] 120 2 f120 Hh [(.ret,⟨[(0,.val 202),(1,.bool)],[]⟩)] (hfind [(10,.cut JA),(14,.cut JA),(18,.cut JA),(22,.cut JA),(28,.cut [(.ret,⟨[(4,.pc 0 0),(5,.bool)],[c12]⟩),(.normal,⟨Ga,[c12,c12]⟩)])])
instance:Ok ztC:=kA
def ztD:=spA d [ztC] 62 3 f62 Hh [(.ret,⟨[(0,.val 204),(1,ii),(2,ii)],[]⟩)] (hfind [(11,.draw (od [1,3,5,6,9,11]) []),(18,.loop KG [J4,(.exit 0,⟨[(1,.sl 198),(2,.pc 0 0),(4,.pc 1 0),(7,.pc 2 0),(8,ii)],[c7,c17,c37,.row 202]⟩)]),(26,.cut [J4,(.normal,KG)]),(33,.loop ⟨[(1,.sl 198),(2,.pc 0 0),(4,.pc 1 0),(7,.pc 2 0),(8,ii),(9,ii),(10,.pc 3 0),(11,ii)],[c7,c17,c49,c7,.row 202]⟩ [J4,(.exit 2,⟨[(1,.sl 198),(2,.pc 0 0),(4,.pc 1 0),(7,.pc 2 0),(8,ii),(9,ii),(10,.pc 3 0)],[c7,c17,c49,c7,.row 202]⟩)]),(43,.draw (od [1,3,5,7,9,11,13,15,17]) []),(46,.draw (od [1,3,5,6,9,11]) []),(57,.draw (od [1,3,5,7,9,11,12,15,17]) []),(64,.loop ⟨[(1,.sl 198),(2,.pc 0 0),(4,.pc 1 0),(7,.pc 2 0),(8,ii),(9,ii),(10,.pc 3 0),(12,.pc 4 0),(14,ii)],HK⟩ [J4,(.exit 4,⟨[(1,.sl 198),(2,.pc 0 0),(4,.pc 1 0),(7,.pc 2 0),(8,ii),(9,ii),(10,.pc 3 0),(12,.pc 4 0)],HK⟩)]),(76,.cut [(.normal,⟨[(1,.sl 198),(2,.pc 0 0),(4,.pc 1 0),(7,.pc 2 0),(8,ii),(9,ii),(10,.pc 3 0),(12,.pc 4 0),(14,ii),(107,.bool)],HK⟩)]),(79,.draw (od [1,3,5,7,9,11,12,15,17]) []),(94,.draw (od [1,3,5,7,9,11,13,14,17,19]) [])])
instance:Ok ztD:=kA
def ztE:=spA d [ztD] 29 3 f29 Hh [(.ret,⟨Ko,[.row 204]⟩)] (hfind [(8,.loop Hl [K6,(.exit 0,⟨[(7,.row 0)],[.row 204]⟩)]),(16,.cut [(.normal,Hl),K6])])
instance:Ok ztE:=kA
def ztF:=spA d [P50,P70,P80,zoV,ztB,ztE] 13 2 f13 JX [(.ret,⟨[(0,.val 50),(1,.bool)],[]⟩)] (hfind [(28,.loop JG [(.exit 0,⟨[(2,.pc 0 0),(9,ii),(10,.row 1),(12,ii),(19,.row 2),(22,.pc 3 0)],[c23,.row 192,.row 204,.cell [.row 4,.sl 189,.row 1,.row 5,.sl 198,.row 2],.row 78,.row 83]⟩)]),(41,.cut [(.normal,JG)]),(44,.draw (od [1,3,5,7,9,11,13,14,16,19,20]) []),(48,.draw (od [1,3,5,7,9,11,13,15,17,19,21,23,25,27,29,31,33,35,37,39,41,43,45,46,49]) [(.normal,⟨[(2,.pc 0 0),(3,.bool)],[.cell [.row 1,.sl 189,.row 2,.row 3,.sl 198,.row 4],.row 78,.row 192,.row 83,.row 204]⟩)])])
instance:Ok ztF:=kA
def zlt:=spA d [] 90 0 f90 ⟨[(0,.pc 0 0),(1,.bool),(2,ii)],HS⟩ [Jv,(.ret,⟨[],HS⟩)] (hfind [])
instance:Ok zlt:=kA
def zoZ:=spA d [zlt] 45 0 f45 ⟨[(0,.pc 0 0),(1,.val 78),(2,.bool),(3,ii)],HS⟩ [Jv,(.ret,⟨[],HS⟩)] (hfind [])
instance:Ok zoZ:=kA
def zo0:=spA d [] 57 1 f57 ⟨HX,[c22]⟩ Kz (hfind [])
instance:Ok zo0:=kA
def ztG:=spA d [zo0] 56 1 f56 ⟨[(0,.sl 180),(1,.clo 57 [.pc 0 0])],[c22]⟩ KZ (hfind [(6,.loop ⟨[(0,.sl 180),(1,.clo 57 [.pc 0 0]),(7,ii),(8,ii)],[c22]⟩ JZ)])
instance:Ok ztG:=kA
def zfs:=spA d [ztG] 24 1 f24 ⟨[(0,.val 33),(1,.str)],[]⟩ Jw (hfind [])
instance:Ok zfs:=kA
def ztH:=spA d [zoZ,zfs,P54,zlt] 46 1 f46 ⟨JN,HS⟩ [Jv,(.ret,⟨[(0,.agg [.str,ii,.row 2])],[c15,.forow 33,.row 180]⟩)] (hfind [(12,.loop Ks [Jv,(.exit 0,⟨HF,[c15,.forow 33,c6,c25,c53,.row 180]⟩)]),(20,.cut [Jv,(.normal,Ks)]),(26,.draw (od [1,3,5,7,9,10,13,14]) []),(28,.cut [Jv,(.normal,⟨[(0,.pc 0 0),(3,.pc 2 0),(4,.pc 3 0),(5,ii),(6,.pc 4 0),(8,.pc 5 0),(9,.pc 6 0),(27,.sl 78),(28,ii),(29,ii)],[c15,.forow 33,c6,c25,c60,c6,c6,.row 180]⟩)]),(34,.cut [Jv,(.normal,⟨[(0,.pc 0 0),(3,.pc 2 0),(4,.pc 3 0),(5,ii),(6,.pc 4 0),(10,.pc 5 0),(27,.sl 78),(28,ii),(29,ii)],[c15,.forow 33,c6,c25,c63,c8,.row 180]⟩)]),(36,.draw (od [1,3,5,7,9,11,13,15,17,21,18,22,25,26]) []),(42,.draw (od [1,3,5,7,9,11,13,15,17,19,21,23,25,26]) [])])
instance:Ok ztH:=kA
def Wh:=spA d [] 90 0 f90 ⟨[(0,.pc 0 0),(1,.bool),(2,ii)],J1⟩ [Jc,H4] (hfind [])
instance:Ok Wh:=kA
def zo1:=spA d [zfs,Wh] 138 1 f138 ⟨Kt,J1⟩ [Jc,HA] (hfind [])
instance:Ok zo1:=kA
def zo2:=spA d [] 140 1 f140 ⟨[(0,.val 192),(1,.pc 0 0)],[c6]⟩ [(.ret,⟨[(0,.bool)],[c6]⟩)] (hfind [])
instance:Ok zo2:=kA
def ztI:=spA d [zo2] 139 1 f139 ⟨[(0,.sl 192),(1,.clo 140 [.pc 0 0])],[c6]⟩ [(.ret,⟨[(0,ii)],[c6]⟩)] (hfind [(6,.loop ⟨[(0,.sl 192),(1,.clo 140 [.pc 0 0]),(7,ii),(8,ii)],[c6]⟩ [(.ret,⟨[(4,ii)],[c6]⟩),(.exit 0,⟨[],[c6]⟩)])])
instance:Ok ztI:=kA
def zft:=spA d [Wh,zo1] 98 0 f98 ⟨[(0,.pc 0 0),(1,.val 78),(2,.val 180)],J1⟩ [Jc,H4] (hfind [(15,.cut [Jc,HB]),(18,.cut [(.normal,⟨[(0,.pc 0 0),(4,.pc 2 0),(5,.pc 3 0),(6,.pc 4 0),(47,.bool)],Gg⟩)]),(19,.cut [Jc,HB]),(20,.cut [Jc,HB]),(21,.cut [Jc,HB])])
instance:Ok zft:=kA
def ztJ:=spA d [Wh,zft] 97 0 f97 ⟨[(0,.pc 0 0),(1,.sl 78),(2,.sl 180)],J1⟩ [Jc,H4] (hfind [(5,.loop ⟨[(0,.pc 0 0),(2,.sl 180),(15,.sl 78),(16,ii),(17,ii)],J1⟩ [Jc,(.exit 0,⟨[],J1⟩)]),(16,.draw (od [1,3,5,7,9,11,12]) [])])
instance:Ok ztJ:=kA
def zhH:=spA d [ztI,Wh,ztJ] 94 1 f94 ⟨JN,J1⟩ [Jc,HA] (hfind [(7,.draw (od [1,3,5,7,9,11,13,15,17,19,21,22]) [])])
instance:Ok zhH:=kA
def zlu:=spA d [zo1,Wh,zhH] 93 1 f93 ⟨JN,J1⟩ [HA,Jc] (hfind [(10,.cut [Ky,Jc,JH]),(22,.cut [Jc,(.normal,⟨[(4,.pc 2 0),(6,.pc 3 0)],Gv⟩)]),(29,.cut [(.normal,⟨[(0,.pc 0 0),(3,.pc 2 0),(4,.pc 3 0),(5,.pc 4 0),(13,ii),(35,.bool)],Gg⟩)]),(32,.cut [Jc,Ky,JH]),(34,.draw (od [1,3,5,7,9,11,15,17,19,21,23,25,12,26,28,30,32,34]) [Jc,(.normal,⟨[(0,.pc 0 0),(4,.pc 2 0),(5,.pc 3 0),(7,.pc 4 0),(8,.pc 5 0)],[c0,.forow 33,c8,c8,c8,c8]⟩)]),(36,.cut [Jc,(.normal,⟨[(4,.pc 2 0),(5,.pc 3 0)],Gv⟩)]),(43,.cut [(.normal,⟨[(0,.pc 0 0),(3,.pc 2 0),(4,.pc 3 0),(5,.pc 4 0),(13,ii),(63,.bool)],Gg⟩)]),(46,.cut [Jc,Ky,JH]),(56,.cut [(.normal,⟨[(4,.pc 2 0),(9,.pc 3 0)],Gv⟩)]),(64,.cut [Jc,Ky,JH])])
instance:Ok zlu:=kA
def zlv:=spA d [zfs,Wh] 92 0 f92 ⟨[(0,.pc 0 0),(1,.str),(2,.val 180)],[c0,.orow 33]⟩ [JJ,(.ret,HO)] (hfind [(11,.draw (od [1,3,5,7,9,11,13,15,17,19,21,23,25,26]) []),(14,.draw (od [1,3,5,7,9,11,13,15,17,19,21,23,24,26,29,31,32]) [])])
instance:Ok zlv:=kA
def zo3:=spA d [] 96 1 f96 ⟨[(0,.val 33),(1,.pz 78 0)],[]⟩ Jr (hfind [])
instance:Ok zo3:=kA
def zlw:=spA d [zo3] 95 1 f95 ⟨[(0,.row 0),(1,.clo 96 [.pc 1 0])],HZ⟩ [(.ret,⟨[(0,ii)],HZ⟩)] (hfind [(6,.loop ⟨[(0,.row 0),(1,.clo 96 [.pc 1 0]),(7,ii),(8,ii)],HZ⟩ [(.ret,⟨[(4,ii)],HZ⟩),(.exit 0,⟨[],HZ⟩)])])
instance:Ok zlw:=kA
def zlx:=spA d [Wh,zft] 97 0 f97 ⟨[(0,.pc 0 0),(1,.sl 78),(2,.nxp 1 33 180)],J1⟩ [Jc,H4] (hfind [(5,.loop ⟨[(0,.pc 0 0),(2,.nxp 1 33 180),(15,.sl 78),(16,ii),(17,ii)],J1⟩ [Jc,(.exit 0,⟨[],J1⟩)]),(16,.draw (od [1,3,5,7,9,11,12]) [])])
instance:Ok zlx:=kA
def VF:Sig:=⟨[(0,.pc 0 0),(1,.sl 78)],J1⟩
def VG:List (XK×Sig):=[JJ,(.ret,HO)]
def zyR:Nat->U3 Hint:=hfind [(5,.loop JV [JJ,(.exit 0,HO)]),(23,.cut Jd),(24,.draw (od [1,3,5,7,9,11,13,15,16,18]) Jd),(27,.cut Jd),(31,.cut Jd),(36,.draw (od [1,3,5,7,9,11,13,15,17,19,21,23,25,27,29,31,33,35,37,39,40]) []),(40,.cut [(.normal,⟨[(0,.pc 0 0),(4,.pc 2 0),(6,.pc 3 0),(11,.sl 78),(12,ii),(13,ii),(23,ii),(79,.bool)],[c0,.orow 33,c8,c6]⟩)]),(43,.cut Jd),(45,.draw (od [1,3,5,7,9,11,12]) []),(47,.draw (od [1,3,5,7,9,11,12]) []),(51,.loop ⟨[(0,.pc 0 0),(4,.pc 2 0),(11,.sl 78),(12,ii),(13,ii),(98,.sl 78),(99,ii),(100,ii)],[c0,.orow 33,c8]⟩ [JJ,(.exit 3,JV)]),(66,.cut Jd),(70,.cut [(.normal,JV),JJ])]
def zo4(h:VF.ty CC->U3 (zg CC VG)):Spec CC:=⟨47,0,VF,VG,h⟩
def zi4(h:VF.ty CC->U3 (zg CC VG))(x:VF.ty CC):U3 (zg CC VG):=X9 ⟨d⟩ [zlu,zlv,zhH,zlw,Wh,zlx,zft,zo4 h] lpO prog f47 0 VF VG zyR x
def zAH(h:VF.ty CC->U3 (zg CC VG)):Spec CC:=⟨47,0,VF,VG,zi4 h⟩
theorem zAI{h:VF.ty CC->U3 (zg CC VG)}(hh:Spec.OK prog (zo4 h)):Spec.OK prog (zAH h):=yE (zu (okP zlu) (zu (okP zlv) (zu (okP zhH) (zu (okP zlw) (zu (okP Wh) (zu (okP zlx) (zu (okP zft) (zu hh yG)))))))) ZG ZF zyR (by kernel_rfl) (by kernel_rfl) (by kernel_rfl) λx=>rfl
def zgn:Nat->VF.ty CC->U3 (zg CC VG)
 |0=>λ_=>q
 |k+1=>zi4 (zgn k)
theorem zvt:∀k,Spec.OK prog (zo4 (zgn k))
 |0=>⟨f47,by kernel_rfl,by kernel_rfl,by kernel_rfl,λx r h=>by cases h⟩
 |k+1=>zAI (zvt k)
def zyS(x:VF.ty CC):U3 (zg CC VG):=zgn 100000 x
def ztK:Spec CC:=⟨47,0,VF,VG,zyS⟩
theorem zBm:Spec.OK prog ztK:=zvt 100000
instance:Ok ztK:=⟨zBm⟩
def zhI:=spA d [] 146 1 f146 Kg [(.ret,Kg)] (hfind [])
instance:Ok zhI:=kA
def zhJ:=spA d [] 176 1 f176 Kg [(.ret,G7)] (hfind [])
instance:Ok zhJ:=kA
def zb4:=spA d [zhJ] 148 1 f148 ⟨[(0,.val 78),(1,ii)],[]⟩ [(.ret,G7)] (hfind [])
instance:Ok zb4:=kA
def zhK:=spA d [zhJ] 149 1 f149 Kg [(.ret,⟨[(0,.row 0)],[.row 96]⟩)] (hfind [(8,.loop ⟨[(3,.row 0),(7,.sl 78),(8,ii),(9,ii)],[.row 96]⟩ [(.exit 0,⟨[(3,.row 0)],[.row 96]⟩)])])
instance:Ok zhK:=kA
def VH:=spA d [] 52 1 f52 ⟨[(0,.pc 0 0),(1,.val 99)],[c24,.row 99]⟩ [(.ret,⟨[(0,ii)],[c52,.gone,.row 99]⟩)] (hfind [(3,.draw (od [1,3,5,7,9,11,12,14,17,19,20]) [])])
instance:Ok VH:=kA
def zly:=spA d [zb4,zhK,zhJ,VH] 145 0 f145 ⟨[(0,.pc 0 0),(1,.val 78),(2,.val 78)],[c24,.row 99]⟩ [(.ret,JT)] (hfind [(11,.cut [(.normal,⟨[(0,.pc 0 0),(5,.pc 2 0),(6,.pc 3 0),(13,ii),(17,.bool)],G3⟩)]),(14,.cut J2),(15,.draw (od [1,3,5,7,9,13,17,10,14,18,21,22,25,26]) []),(18,.cut J2),(19,.draw (od [1,3,5,7,8,11,12]) []),(22,.cut J2),(23,.draw (od [1,3,5,7,8,11,12]) []),(26,.cut J2),(27,.draw (od [1,3,5,9,6,10,13,14,17,18]) []),(30,.cut J2),(31,.draw (od [1,3,5,9,6,10,13,14,17,18]) []),(35,.cut [(.normal,⟨[(0,.pc 0 0),(5,.pc 2 0),(6,.pc 3 0),(63,.bool)],G3⟩)]),(38,.cut [(.normal,⟨[(0,.pc 0 0),(6,.pc 2 0)],[c24,.row 99,c5]⟩)])])
instance:Ok zly:=kA
def zlz:Sig:=⟨JN,[c24,.row 99]⟩
def zlA:List (XK×Sig):=[(.ret,JT)]
def zyT:Nat->U3 Hint:=hfind [(9,.draw (od [1,3,5,7,9,11,15,12,16,19,20,23]) []),(15,.draw (od [1,3,5,7,9,11,13,15,17,19,21,23,24]) []),(17,.cut [(.normal,⟨[(0,.pc 0 0),(3,.pc 2 0),(5,ii),(53,.bool)],[c56,.gone,c6,.row 99]⟩)]),(18,.cut [(.normal,JT)]),(21,.draw (od [1,3,5,7,9,11,13,15,17,19,21,23,24]) [])]
def zlB:Sig:=⟨JN,[c24,.row 99]⟩
def zlC:List (XK×Sig):=[(.ret,JT)]
def zyU:Nat->U3 Hint:=hfind [(10,.cut [(.ret,JT),Jn]),(12,.draw (od [1,3,5,6,8]) []),(17,.cut [(.normal,⟨[(0,.pc 0 0),(3,.pc 2 0),(4,.pc 3 0),(11,ii),(21,.bool)],G3⟩)]),(26,.cut [Jn]),(27,.draw (od [1,5,9,2,6,10,13,14,17,18]) []),(30,.cut [Jn]),(34,.cut [Jn]),(35,.draw (od [1,3,5,7,8,11,12]) []),(38,.cut [Jn]),(39,.draw (od [1,3,5,7,8,11,12]) []),(42,.cut [Jn]),(43,.draw (od [1,7,13,2,5,8,10,14,17,18,21,22]) []),(46,.cut [Jn]),(50,.cut [(.normal,⟨[(0,.pc 0 0),(4,.pc 2 0)],[c24,.row 99,c5]⟩)]),(51,.draw (od [1,3,5,7,9,13,10,14,17,18,21,22,25,26]) [])]
def XH:Sig:=⟨JN,[c24,.row 99]⟩
def XI:List (XK×Sig):=[(.ret,JT)]
def zyV:Nat->U3 Hint:=hfind [(5,.loop ⟨[(0,.pc 0 0),(7,.sl 78),(8,ii),(9,ii)],[c52,.gone,.row 99]⟩ [(.exit 0,JT)])]
def zgo(h:XH.ty CC->U3 (zg CC XI)):Spec CC:=⟨51,0,XH,XI,h⟩
def zgp(h:XH.ty CC->U3 (zg CC XI))(x:zlz.ty CC):U3 (zg CC zlA):=X9 ⟨d⟩ [zb4,VH,zgo h] lpO prog f147 0 zlz zlA zyT x
def zvu(h:XH.ty CC->U3 (zg CC XI)):Spec CC:=⟨147,0,zlz,zlA,zgp h⟩
theorem zvv{h:XH.ty CC->U3 (zg CC XI)}(hh:Spec.OK prog (zgo h)):Spec.OK prog (zvu h):=yE (zu (okP zb4) (zu (okP VH) (zu hh yG))) ZG ZF zyT (by kernel_rfl) (by kernel_rfl) (by kernel_rfl) λx=>rfl
def zgq(h:XH.ty CC->U3 (zg CC XI))(x:zlB.ty CC):U3 (zg CC zlC):=X9 ⟨d⟩ [zhI,zly,zvu h,zb4,zhK,VH] lpO prog f102 0 zlB zlC zyU x
def zvw(h:XH.ty CC->U3 (zg CC XI)):Spec CC:=⟨102,0,zlB,zlC,zgq h⟩
theorem zvx{h:XH.ty CC->U3 (zg CC XI)}(hh:Spec.OK prog (zgo h)):Spec.OK prog (zvw h):=yE (zu (okP zhI) (zu (okP zly) (zu (zvv hh) (zu (okP zb4) (zu (okP zhK) (zu (okP VH) yG)))))) ZG ZF zyU (by kernel_rfl) (by kernel_rfl) (by kernel_rfl) λx=>rfl
def zi5(h:XH.ty CC->U3 (zg CC XI))(x:XH.ty CC):U3 (zg CC XI):=X9 ⟨d⟩ [zvw h] lpO prog f51 0 XH XI zyV x
def zAJ(h:XH.ty CC->U3 (zg CC XI)):Spec CC:=⟨51,0,XH,XI,zi5 h⟩
theorem zAK{h:XH.ty CC->U3 (zg CC XI)}(hh:Spec.OK prog (zgo h)):Spec.OK prog (zAJ h):=yE (zu (zvx hh) yG) ZG ZF zyV (by kernel_rfl) (by kernel_rfl) (by kernel_rfl) λx=>rfl
def zb5:Nat->XH.ty CC->U3 (zg CC XI)
 |0=>λ_=>q
 |k+1=>zi5 (zb5 k)
theorem zi6:∀k,Spec.OK prog (zgo (zb5 k))
 |0=>⟨f51,by kernel_rfl,by kernel_rfl,by kernel_rfl,λx r h=>by cases h⟩
 |k+1=>zAK (zi6 k)
def zyY(x:XH.ty CC):U3 (zg CC XI):=zb5 100000 x
def ztL:Spec CC:=⟨51,0,XH,XI,zyY⟩
theorem zBr:Spec.OK prog ztL:=zi6 100000
instance:Ok ztL:=⟨zBr⟩
def zo5:=spA d [ztL,VH] 18 1 f18 Kg [(.ret,⟨[(0,.val 30)],[]⟩)] (hfind [(18,.loop JK [(.exit 0,⟨[(2,.pc 0 0),(3,.pc 1 0),(4,.pc 2 0)],[c42,c40,c26,.row 9,.row 99]⟩)]),(34,.cut [(.normal,JK)]),(38,.cut [(.normal,JK)])])
instance:Ok zo5:=kA
def ztM:=spA d [Wh] 45 0 f45 ⟨[(0,.pc 0 0),(1,.val 78),(2,.bool),(3,ii)],J1⟩ [Jc,H4] (hfind [])
instance:Ok ztM:=kA
def ztN:Sig:=⟨[(0,.pc 0 0),(1,.pc 1 0),(2,.pc 2 0),(3,.ifc 148 (.agg [ii,ii]))],Gf⟩
def ztO:List (XK×Sig):=[(.ret,⟨[],[c29,c11,c11,.forow 33]⟩)]
def zyZ:Nat->U3 Hint:=hfind [(5,.draw (od [1,3,5,7,8,10,12]) [])]
def ztP(x:ztN.ty CC):U3 (zg CC ztO):=zbU ⟨d⟩ [] lpO prog f44 0 ztN ztO zyZ x
def zy0:Spec CC:=⟨44,0,ztN,ztO,ztP⟩
theorem zBs:Spec.OKD prog zy0:=Vb yG ZG ZF zyZ (by kernel_rfl) (by kernel_rfl) (by kernel_rfl) λx=>rfl
def ztQ:Sig:=⟨KT,Gf⟩
def ztR:List (XK×Sig):=[(.ret,⟨[],Gf⟩)]
def zy1:Nat->U3 Hint:=hfind []
def ztS(x:ztQ.ty CC):U3 (zg CC ztR):=zbU ⟨d⟩ [] lpO prog f44 0 ztQ ztR zy1 x
def zy2:Spec CC:=⟨44,0,ztQ,ztR,ztS⟩
theorem zBt:Spec.OKD prog zy2:=Vb yG ZG ZF zy1 (by kernel_rfl) (by kernel_rfl) (by kernel_rfl) λx=>rfl
def ztT:Sig:=⟨[(0,.val 78),(1,.sl 192),(2,.sl 189)],[]⟩
def ztU:List (XK×Sig):=[(.ret,⟨Ko,[.orow 33]⟩)]
def zy3:Nat->U3 Hint:=hfind [(3,.loop ⟨[(1,.sl 192),(2,.sl 189),(3,.pc 0 0),(6,.pc 1 0),(7,.pc 2 0),(8,.pc 3 0),(14,.clo 44 [.pc 1 0,.pc 2 0,.pc 3 0])],[c6,c29,c11,c11]⟩ []),(10,.loop J5 [Ji,(.exit 0,⟨[(3,.pc 0 0),(6,.pc 1 0),(7,.pc 2 0),(8,.pc 3 0),(9,.pc 4 0)],[c6,c29,c11,c11,c36,.orow 33]⟩)]),(18,.cut [Ji,(.normal,J5)]),(23,.draw (od [1,3,5,7,11,13,8718,8720,16,8,18,21,23,24,14,16,18,21,23,24]) [Ji,(.normal,J5)]),(29,.loop ⟨[(6,.pc 1 0),(7,.pc 2 0),(8,.pc 3 0),(9,.pc 4 0),(46,.sl 78),(47,ii),(48,ii)],Hz⟩ [Ji,(.exit 2,⟨[(6,.pc 1 0),(7,.pc 2 0),(8,.pc 3 0),(9,.pc 4 0)],Hz⟩)]),(37,.cut [Ji,(.normal,JS)]),(44,.draw (od [1,3,5,7,9,11,13,15,17,19,21,23,25,26,29,31,33,35,36]) [Ji,(.normal,JS)])]
def zy4(x:ztT.ty CC):U3 (zg CC ztU):=zhx ⟨d⟩ [zoZ,ztH,ztK,zo5,ztM] (zy2) (zy0) lpO prog f16 3 ztT ztU zy3 x
def ztV:Spec CC:=⟨16,3,ztT,ztU,zy4⟩
theorem zBu:Spec.OK prog ztV:=zhy Oks.o zBt zBs ZG ZF zy3 (by kernel_rfl) (by kernel_rfl) (by kernel_rfl) λx=>rfl
instance:Ok ztV:=⟨zBu⟩
def zdx:=spA d [] 48 0 f48 ⟨KI,[c4,.forow 64]⟩ [(.ret,G6)] (hfind [(2,.cut [(.normal,G6)])])
instance:Ok zdx:=kA
def zo6:=spA d [] 99 1 f99 ⟨Kt,[c54,.row 202]⟩ [(.ret,⟨[(0,ii)],[c54,.row 202]⟩)] (hfind [(6,.loop ⟨[(0,.pc 0 0),(1,.str),(5,ii)],[c54,.row 202]⟩ [(.ret,⟨[(4,ii)],[c54,.row 202]⟩),(.exit 0,⟨[],[c54,.row 202]⟩)])])
instance:Ok zo6:=kA
def ztW:=spA d [zdx,zo6,zhG] 49 1 f49 ⟨[(0,.pc 0 0),(1,.val 83)],[c4,.forow 64]⟩ [(.ret,⟨[(0,.agg [.str,ii,.row 2])],[c4,.forow 64,.row 202]⟩)] (hfind [(20,.loop ⟨[(0,.pc 0 0),(3,.pc 2 0),(4,.pc 3 0),(5,ii),(6,.pc 4 0),(7,ii)],G5⟩ [(.exit 0,⟨HF,G5⟩)]),(38,.cut [(.normal,⟨[(0,.pc 0 0),(3,.pc 2 0),(4,.pc 3 0),(5,ii),(6,.pc 4 0),(7,ii),(8,.pc 5 0),(9,.pc 6 0)],[c4,.forow 64,c7,c25,c60,c7,c7,.row 202]⟩)]),(45,.cut [(.normal,⟨[(0,.pc 0 0),(3,.pc 2 0),(4,.pc 3 0),(5,ii),(6,.pc 4 0),(7,ii),(9,.pc 5 0),(11,.pc 6 0),(60,.bool)],Gm⟩)]),(46,.cut [(.normal,⟨[(0,.pc 0 0),(3,.pc 2 0),(4,.pc 3 0),(5,ii),(6,.pc 4 0),(7,ii),(9,.pc 5 0),(11,.pc 6 0)],Gm⟩)]),(52,.cut Kx),(56,.draw (od [1,3,5,7,9,11,13,15,17,18,21,22]) []),(59,.cut Kx),(68,.cut [(.normal,⟨[(4,.pc 2 0),(6,.pc 3 0)],[c4,.forow 64,c25,.cell [.str,ii,.row 4],.row 202]⟩)])])
instance:Ok ztW:=kA
def zlD:=spA d [] 99 1 f99 HJ KJ (hfind [(6,.loop ⟨[(0,.pr 0 64 0),(1,.str),(5,ii)],[.forow 64]⟩ [(.ret,⟨[(4,ii)],[.forow 64]⟩),HC])])
instance:Ok zlD:=kA
def zo7:=spA d [zlD] 175 2 f175 HJ [(.ret,⟨[(0,.val 202),(1,ii)],[.forow 64]⟩)] (hfind [(13,.draw (od [1,3,5,7,9,11,13,15,17,19,21,23,25,27,29,31,33,34,37]) [])])
instance:Ok zo7:=kA
def zlE:=spA d [zo7] 144 1 f144 ⟨[(0,.pr 0 64 0),(1,.val 83),(2,.val 202)],[.forow 64]⟩ KJ (hfind [(5,.cut [KQ,(.normal,⟨[(0,.pr 0 64 0),(4,.pc 1 0),(5,.pc 2 0)],[.forow 64,c7,c12]⟩)]),(31,.cut [KQ,(.normal,⟨[(4,.pc 1 0),(5,.pc 2 0),(7,.pc 3 0)],[.forow 64,c7,c12,c12]⟩)]),(45,.cut [(.normal,⟨[(4,.pc 1 0),(5,.pc 2 0),(7,.pc 3 0),(9,.bool)],[.forow 64,c7,c12,c12]⟩)]),(48,.cut [(.normal,⟨[(60,.bool)],[.forow 64]⟩)])])
instance:Ok zlE:=kA
def ztX:=spA d [zlE] 143 1 f143 ⟨[(0,.pr 0 64 0),(1,.sl 83),(2,.sl 202)],[.forow 64]⟩ KJ (hfind [(14,.loop ⟨[(0,.pr 0 64 0),(1,.sl 83),(2,.sl 202),(7,ii)],[.forow 64]⟩ [KQ,HC]),(24,.draw (od [1,3,5,7,9,11,13,15,17,18,21]) [])])
instance:Ok ztX:=kA
def zo8:=spA d [ztX] 142 2 f142 ⟨He,[c4,.forow 64]⟩ [(.ret,HN)] (hfind [(6,.loop ⟨[(0,.pc 0 0),(1,.pr 1 64 0),(5,.pc 2 0),(6,.pc 3 0),(8,ii)],[c4,.forow 64,c7,c12]⟩ [(.ret,⟨[(6,.pc 2 0),(7,ii)],[c4,.forow 64,c12]⟩),(.exit 0,⟨[(6,.pc 2 0)],[c4,.forow 64,c12]⟩)]),(16,.draw (od [1,3,5,7,9,11,13,15,17,19,21]) []),(19,.draw (od [1,3,5,7,9,11,13,15,17,19,21,22,25]) [])])
instance:Ok zo8:=kA
def ztY:=spA d [zo7,zo8] 141 2 f141 ⟨He,[c4,.forow 64]⟩ [(.ret,HN)] (hfind [(10,.cut J9),(23,.cut [(.normal,⟨[(6,.pc 2 0),(9,.pc 3 0),(10,ii),(46,.bool)],Hb⟩)]),(24,.cut [(.normal,⟨[(6,.pc 2 0),(9,.pc 3 0),(10,ii)],Hb⟩)]),(33,.cut [(.normal,⟨[(0,.pc 0 0),(1,.pr 1 64 0),(5,.pc 2 0),(6,.pc 3 0),(8,.pc 4 0),(21,ii),(49,.bool)],[c4,.forow 64,c7,c12,c12]⟩)]),(36,.cut J9),(59,.cut [(.normal,⟨[(6,.pc 2 0),(8,.pc 3 0),(11,.pc 4 0),(87,.bool)],[c4,.forow 64,c12,c12,c12]⟩)]),(71,.cut [(.normal,⟨[(0,.pc 0 0),(1,.pr 1 64 0),(5,.pc 2 0),(6,.pc 3 0),(8,.pc 4 0),(21,ii),(90,.bool)],[c4,.forow 64,c7,c12,c12]⟩)]),(74,.cut J9),(98,.cut [(.normal,⟨[(6,.pc 2 0),(15,.pc 3 0)],Hb⟩)]),(111,.cut [(.normal,⟨[(6,.pc 2 0),(17,.pc 3 0),(18,ii),(129,.bool)],Hb⟩)]),(112,.cut [(.normal,⟨[(6,.pc 2 0),(17,.pc 3 0),(18,ii)],Hb⟩)])])
instance:Ok ztY:=kA
def ztZ:=spA d [zlE] 143 1 f143 ⟨[(0,.pr 0 64 0),(1,.sl 83),(2,.nxp 0 64 202)],[.forow 64]⟩ KJ (hfind [(14,.loop ⟨[(0,.pr 0 64 0),(1,.sl 83),(2,.nxp 0 64 202),(7,ii)],[.forow 64]⟩ [KQ,HC]),(24,.draw (od [1,3,5,7,9,11,13,15,17,18,21]) [])])
instance:Ok ztZ:=kA
def zlF:=spA d [ztY,zlD,zo8,ztZ,zlE] 101 1 f101 ⟨He,[c4,.orow 64]⟩ [(.ret,⟨[(0,ii)],[c4,.orow 64]⟩)] (hfind [(10,.cut J0),(30,.draw (od [1,3,5,7,9,11,12,14,17,19,20]) []),(37,.draw (od [1,3,5,7,9,11,13,15,17]) []),(48,.cut J0),(56,.cut J0),(61,.loop ⟨[(0,.pc 0 0),(1,.pr 1 64 0),(5,.pc 2 0),(13,ii)],GD⟩ [(.ret,⟨[(6,ii)],[c4,.orow 64]⟩),(.exit 1,Ho)]),(71,.draw (od [1,3,5,7,9,11,13,15,17,19,21]) []),(74,.draw (od [1,3,5,7,9,11,13,15,17,19,21,23,25,27,29,31,33,35,37,39,40,43]) []),(84,.cut [(.normal,⟨[(1,.pr 1 64 0),(5,.pc 2 0),(7,.pc 3 0),(17,ii),(117,.bool)],[c4,.orow 64,c7,c12]⟩)]),(87,.cut J0),(89,.draw (od [1,3,5,7,9,11,12,15]) []),(99,.draw (od [1,3,5,7,9,11,12,15]) []),(103,.cut J0)])
instance:Ok zlF:=kA
def VI:Sig:=⟨[(0,.pc 0 0),(1,.pr 1 64 0),(2,.sl 83)],[c4,.forow 64]⟩
def VJ:List (XK×Sig):=[(.ret,Ho)]
def zy5:Nat->U3 Hint:=hfind [(3,.loop Kq [(.ret,Ho),(.exit 0,Ho)]),(6,.cut [(.normal,⟨[(0,.pc 0 0),(1,.pr 1 64 0),(2,.sl 83),(6,ii),(20,.bool)],[c4,.orow 64]⟩)]),(25,.cut [(.normal,⟨[(0,.pc 0 0),(1,.pr 1 64 0),(2,.sl 83),(6,ii),(7,.pc 2 0),(45,.bool)],GD⟩)]),(26,.cut [(.normal,Kq)]),(30,.loop ⟨[(0,.pc 0 0),(1,.pr 1 64 0),(2,.sl 83),(6,ii),(7,.pc 2 0),(9,ii)],GD⟩ [(.exit 2,Kq)])]
def zo9(h:VI.ty CC->U3 (zg CC VJ)):Spec CC:=⟨50,0,VI,VJ,h⟩
def zi7(h:VI.ty CC->U3 (zg CC VJ))(x:VI.ty CC):U3 (zg CC VJ):=X9 ⟨d⟩ [zlF,zdx,zo9 h] lpO prog f50 0 VI VJ zy5 x
def zAL(h:VI.ty CC->U3 (zg CC VJ)):Spec CC:=⟨50,0,VI,VJ,zi7 h⟩
theorem zAM{h:VI.ty CC->U3 (zg CC VJ)}(hh:Spec.OK prog (zo9 h)):Spec.OK prog (zAL h):=yE (zu (okP zlF) (zu (okP zdx) (zu hh yG))) ZG ZF zy5 (by kernel_rfl) (by kernel_rfl) (by kernel_rfl) λx=>rfl
def zgr:Nat->VI.ty CC->U3 (zg CC VJ)
 |0=>λ_=>q
 |k+1=>zi7 (zgr k)
theorem zvy:∀k,Spec.OK prog (zo9 (zgr k))
 |0=>⟨f50,by kernel_rfl,by kernel_rfl,by kernel_rfl,λx r h=>by cases h⟩
 |k+1=>zAM (zvy k)
def zy6(x:VI.ty CC):U3 (zg CC VJ):=zgr 100000 x
def zt0:Spec CC:=⟨50,0,VI,VJ,zy6⟩
theorem zBv:Spec.OK prog zt0:=zvy 100000
instance:Ok zt0:=⟨zBv⟩
def zb6:=spA d [] 104 1 f104 KE [(.ret,⟨[(0,.val 167)],[]⟩)] (hfind [])
instance:Ok zb6:=kA
def zpa:=spA d [zb6] 151 1 f151 ⟨[(0,.sl 83)],[]⟩ [(.ret,⟨[(0,.row 0)],[.row 167]⟩)] (hfind [(8,.loop ⟨[(0,.sl 83),(3,.row 0),(4,ii)],[.row 167]⟩ [(.exit 0,⟨[(3,.row 0)],[.row 167]⟩)])])
instance:Ok zpa:=kA
def zt1:=spA d [zb6,zpa] 150 1 f150 KE [(.ret,KU)] (hfind [(13,.cut [(.normal,⟨[(2,.pc 0 0),(3,.pc 1 0),(4,.pc 2 0),(20,ii),(21,.bool)],[c5,c7,c5]⟩)]),(16,.cut Jt),(20,.cut Jt),(28,.cut Jt),(36,.cut Jt),(42,.cut Jt),(48,.cut Jt),(56,.cut Jt)])
instance:Ok zt1:=kA
def zlG:=spA d [zt1,zb6,zpa] 103 1 f103 KE [(.ret,KU)] (hfind [(16,.cut Jx),(24,.cut Jx),(28,.cut Jx),(34,.cut Jx),(40,.cut Jx),(48,.cut Jx),(54,.cut KL),(61,.cut KL),(68,.cut KL)])
instance:Ok zlG:=kA
def VL:Sig:=Gp
def VM:List (XK×Sig):=[(.ret,⟨[(0,.row 0)],[.row 170]⟩)]
def zy7:Nat->U3 Hint:=hfind [(8,.loop ⟨Ki,[c7,.row 170]⟩ [(.exit 0,⟨[(5,.row 0)],[.row 170]⟩)]),(16,.cut [(.normal,⟨Ki,[c7,.row 170]⟩)]),(23,.cut [(.normal,⟨[(1,ii),(2,.pc 0 0),(5,.row 1),(6,ii),(7,.pc 2 0),(8,ii),(40,.bool)],[c7,.row 170,c7]⟩)]),(45,.loop ⟨[(1,ii),(2,.pc 0 0),(5,.row 1),(6,ii),(7,.pc 2 0),(8,ii),(12,.row 3),(13,ii),(14,ii)],[c7,.row 170,c7,.row 170]⟩ [(.exit 2,⟨[(1,ii),(2,.pc 0 0),(5,.row 1),(6,ii),(7,.pc 2 0),(8,ii),(13,ii)],[c7,.row 170,c7]⟩)]),(71,.loop ⟨[(1,ii),(2,.pc 0 0),(5,.row 1),(6,ii),(15,.row 2),(16,ii)],[c7,.row 170,.row 170]⟩ [(.exit 4,⟨Ki,[c7,.row 170]⟩)])]
def zpb(h:VL.ty CC->U3 (zg CC VM)):Spec CC:=⟨53,1,VL,VM,h⟩
def zi8(h:VL.ty CC->U3 (zg CC VM))(x:VL.ty CC):U3 (zg CC VM):=X9 ⟨d⟩ [zlG,zb6,zpb h] lpO prog f53 1 VL VM zy7 x
def zAN(h:VL.ty CC->U3 (zg CC VM)):Spec CC:=⟨53,1,VL,VM,zi8 h⟩
theorem zAO{h:VL.ty CC->U3 (zg CC VM)}(hh:Spec.OK prog (zpb h)):Spec.OK prog (zAN h):=yE (zu (okP zlG) (zu (okP zb6) (zu hh yG))) ZG ZF zy7 (by kernel_rfl) (by kernel_rfl) (by kernel_rfl) λx=>rfl
def zgs:Nat->VL.ty CC->U3 (zg CC VM)
 |0=>λ_=>q
 |k+1=>zi8 (zgs k)
theorem zvz:∀k,Spec.OK prog (zpb (zgs k))
 |0=>⟨f53,by kernel_rfl,by kernel_rfl,by kernel_rfl,λx r h=>by cases h⟩
 |k+1=>zAO (zvz k)
def zy8(x:VL.ty CC):U3 (zg CC VM):=zgs 100000 x
def zt2:Spec CC:=⟨53,1,VL,VM,zy8⟩
theorem zBw:Spec.OK prog zt2:=zvz 100000
instance:Ok zt2:=⟨zBw⟩
def zpc:=spA d [zt2] 19 1 f19 KE [(.ret,⟨[(0,.agg [.str,.row 0,.row 1])],[.row 9,.row 170]⟩)] (hfind [(10,.loop ⟨[(1,.pc 0 0),(2,.pc 1 0),(3,.pc 2 0),(4,ii),(5,ii)],[c7,c42,c40,.row 9]⟩ [(.exit 0,⟨Gd,[c7,c42,c40,.row 9]⟩)]),(19,.draw (od [1,3,5,7,9,11,13,15,16,18,21,22]) []),(24,.draw (od [1,3,5,7,9,11,13,15,17,18,20,23,24]) [])])
instance:Ok zpc:=kA
def zt3:=spA d [zdx,ztW,zt0,zpc] 17 1 f17 ⟨[(0,.val 83),(1,.sl 204),(2,.sl 198)],[]⟩ [(.ret,⟨[(0,.pc 0 0)],[c4,.orow 64]⟩)] (hfind [(8,.loop ⟨[(3,.pc 0 0),(7,.pc 1 0),(8,ii)],Hn⟩ [(.exit 0,⟨[(3,.pc 0 0),(7,.pc 1 0)],Hn⟩)]),(11,.cut [(.normal,⟨[(3,.pc 0 0),(7,.pc 1 0),(8,ii),(29,.bool)],Hn⟩)]),(27,.draw (od [1,3,5,7,9,11,12,14,17,19,20]) []),(33,.loop HM [(.exit 2,Ge)]),(36,.cut [(.normal,⟨[(3,.pc 0 0),(7,.pc 1 0),(10,ii),(75,.bool)],Hn⟩)]),(47,.draw (od [1,3,5,7,9,11,13,15,17,19,21,23,25,26]) []),(51,.cut [(.normal,⟨[(3,.pc 0 0),(7,.pc 1 0),(10,ii),(11,.pc 2 0),(118,.bool)],[c7,.cell [.sl 204,.sl 198,.row 3,ii,ii],c7,.orow 64]⟩)]),(52,.cut [(.normal,HM)]),(59,.cut [(.normal,Ge)])])
instance:Ok zt3:=kA
def zt4:=spA d [ztF,P50,zoV,ztV,zt3,zo5,zpc] 7 3 f7 K8 [(.ret,⟨[(0,.val 50),(1,.val 55),(2,.bool)],[]⟩)] (hfind [(8,.cut [(.normal,⟨[(1,.str),(4,.pc 0 0),(5,.pc 1 0),(7,.pc 2 0),(9,.pc 3 0),(38,.bool)],[c23,c51,c61,c6]⟩)]),(26,.loop J3 [(.exit 0,⟨[(4,.pc 0 0),(5,.pc 1 0),(7,.pc 2 0),(15,.row 3),(17,ii),(18,.pc 4 0),(19,.pc 5 0)],[c23,c51,c61,.orow 33,.cell [.sl 204,.sl 198,.row 6,ii,ii],.cell [.row 3,.row 7,.row 6,.row 8],.orow 64,.row 30,.row 61]⟩)]),(39,.cut [(.normal,J3)]),(41,.draw (od [1,3,5,6,8,10,13,14]) []),(42,.draw (od [1,3,5,7,9,11,13,14,16,18,21,22]) []),(46,.draw (od [1,3,5,7,9,11,13,15,17,19,21,23,25,27,29,31,33,35,37,39,41,43,45,47,49,51,53,55,57,58,60,63]) [(.normal,⟨[(4,.pc 0 0),(5,.pc 1 0),(6,.bool)],[c61,.cell [.row 2,.row 3,.row 4,.row 5],.orow 33,.row 30,.orow 64,.row 61]⟩)])])
instance:Ok zt4:=kA
def zpd:=spA d [zt4] 4 3 f4 K8 [(.ret,⟨[(0,.row 0),(1,.row 1),(2,.bool)],[.row 39,.row 58]⟩)] (hfind [(20,.loop ⟨[(7,.pc 0 0),(8,.pc 1 0),(10,.row 2),(11,.row 3),(24,ii),(25,ii)],[c61,.cell [.val 55],.row 39,.row 58]⟩ [(.exit 0,⟨[(10,.row 0),(11,.row 1)],[.row 39,.row 58]⟩)]),(32,.draw (od [1,3,5,7,9,11,13,15,17,19,21,23,25,27,29,31,33,35,36,38,40]) []),(33,.draw (od [1,3,5,7,9,11,13,15,17,19,21,23,25,27,29,31,33,35,36,38,40,42]) [])])
instance:Ok zpd:=kA
def zhL:=spA d [] 20 2 f20 KR [(.ret,⟨[(0,.val 99),(1,.bool)],[]⟩)] (hfind [(4,.cut [(.normal,⟨[(1,ii),(2,.pc 0 0),(4,.pc 1 0),(15,.bool)],[c21,c5]⟩)])])
instance:Ok zhL:=kA
def zt5:=spA d [zhL] 8 1 f8 KR [(.ret,Gu)] (hfind [(7,.cut [(.normal,⟨[(1,ii),(5,.pc 0 0),(13,.bool)],[c55]⟩)]),(8,.cut H0),(14,.cut H0),(19,.cut [(.normal,⟨[(1,ii),(5,.pc 0 0),(33,.bool)],[c55]⟩)])])
instance:Ok zt5:=kA
def zpe:=spA d [] 222 0 f222 ⟨[(0,.pc 0 0),(1,.ifc 3 (ii))],Jf⟩ Gw (hfind [(0,.draw (od [1,3,5,7,9,11,13,14,16,19,21,22]) [])])
instance:Ok zpe:=kA
def zhM:=spA d [] 22 1 f22 G8 [(.ret,⟨[(0,ii)],Jf⟩)] (hfind [])
instance:Ok zhM:=kA
def zlH:=spA d [] 220 1 f220 ⟨KI,Jf⟩ [(.ret,GB)] (hfind [(3,.draw (od [1,3,5,7,9,11,13,15,17,19,21,23,25,27,29,31,33,35,37,39,41,43,45,47,49,51]) [])])
instance:Ok zlH:=kA
def zhN:=spA d [] 223 0 f223 ⟨KI,Jf⟩ [(.ret,⟨[],Jf⟩)] (hfind [(0,.draw (od [1,3,5,7,9,11,13,15,17,19,21,23,25,27,29,31,33,35,37,39,41,43,45,47,49,50,53,54]) [])])
instance:Ok zhN:=kA
def zt6:=spA d [zlH,zhN] 105 0 f105 HU [(.ret,⟨[],Jf⟩)] (hfind [(1,.loop HU [(.exit 0,⟨[],Jf⟩)]),(7,.cut [(.normal,⟨[(0,.ifc 102 (.pc 0 0)),(1,ii),(4,ii),(17,.bool)],Jf⟩)])])
instance:Ok zt6:=kA
def zt7:=spA d [zpe,zhM,zt6] 54 0 f54 ⟨[(0,.ifc 102 (.pc 0 0)),(1,.ifc 3 (ii))],Jf⟩ Gw (hfind [])
instance:Ok zt7:=kA
def zpf:=spA d [zt7] 21 0 f21 ⟨JY,Jf⟩ Gw (hfind [(2,.cut [(.normal,⟨[],Ku⟩)])])
instance:Ok zpf:=kA
def zt8:=spA d [zlH,zhN] 55 1 f55 ⟨[(0,.ifc 102 (.pc 0 0)),(1,ii),(2,ii)],Jf⟩ [(.ret,GB)] (hfind [(6,.loop Hy [(.exit 0,G4)]),(7,.cut [(.exit 0,G4),(.normal,Hy)]),(12,.cut [(.normal,⟨[(0,.ifc 102 (.pc 0 0)),(1,ii),(2,ii),(7,ii),(8,ii),(21,.bool)],Jf⟩)]),(22,.cut [(.normal,⟨[(0,.ifc 102 (.pc 0 0)),(1,ii),(2,ii),(7,ii),(9,ii),(10,ii),(33,.bool)],Jf⟩)]),(23,.cut [(.normal,⟨[(0,.ifc 102 (.pc 0 0)),(1,ii),(2,ii),(7,ii),(9,ii)],Jf⟩)])])
instance:Ok zt8:=kA
def zpg:=spA d [] 221 1 f221 G8 [(.ret,Gy)] (hfind [])
instance:Ok zpg:=kA
def zt9:=spA d [zhM,zhN,zt8,zpg] 23 1 f23 ⟨[(0,.ifc 102 (.pc 0 0))],Jf⟩ [(.ret,Gy)] (hfind [])
instance:Ok zt9:=kA
def zua:=spA d [zhL,zfs] 11 1 f11 KR Jw (hfind [(6,.cut [(.normal,⟨[(2,.pc 0 0),(5,.pc 1 0),(28,.bool)],[c21,c55]⟩)])])
instance:Ok zua:=kA
def zph:=spA d [] 25 1 f25 ⟨[(0,.val 99)],[]⟩ [(.ret,⟨[(0,.row 0)],[.row 9]⟩)] (hfind [(11,.cut JR),(15,.cut JR),(19,.cut JR),(23,.cut JR),(26,.cut [(.normal,⟨[(1,.pc 0 0),(3,.row 1)],[c55,.row 9]⟩)]),(33,.loop Hk [(.exit 1,⟨[(3,.row 0)],[.row 9]⟩)]),(46,.cut [(.normal,Hk)])])
instance:Ok zph:=kA
def zub:=spA d [zhL,zph,zfs] 12 1 f12 KR [(.ret,Gu)] (hfind [(9,.cut [(.normal,Gt)]),(13,.loop ⟨[(2,.pc 0 0),(5,.row 1),(18,.row 2),(19,ii),(20,ii)],[c21,.row 3,.row 9]⟩ [(.exit 0,Gt)])])
instance:Ok zub:=kA
def zuc:=spA d [zua,zub,zpf] 10 0 f10 JP [(.ret,⟨[],Jl⟩)] (hfind [(1,.draw (od [1,3,5,7,9,11,13,15,16]) []),(7,.cut [(.normal,JP)]),(14,.loop ⟨[(0,ii),(1,.clo 21 [.tup [.pc 0 0]]),(2,.pc 1 0),(3,.pc 2 0),(5,.pc 4 0),(37,.row 10),(38,ii),(39,ii)],[c58,c30,c38,c21,c44,.row 3,.obj 0 103,.orow 43,.orow 43,.orow 68,.row 3]⟩ [(.exit 0,⟨[(0,ii),(1,.clo 21 [.tup [.pc 0 0]]),(2,.pc 1 0),(3,.pc 2 0),(5,.pc 4 0)],[c58,c30,c38,c21,c44,.row 3,.obj 0 103,.orow 43,.orow 43,.orow 68]⟩)]),(30,.loop KC [(.exit 2,⟨[],Jl⟩)]),(44,.loop Kd [(.exit 4,KC)]),(56,.cut [(.normal,⟨[(0,ii),(1,.clo 21 [.tup [.pc 0 0]]),(2,.pc 1 0),(3,.pc 2 0),(12,ii),(13,ii),(53,.nx 9 68),(54,ii),(55,ii),(62,.nx 7 43),(63,ii),(64,ii),(79,.bool)],Jl⟩)]),(57,.cut [(.normal,Kd)])])
instance:Ok zuc:=kA
def zud:=spA d [zpf,zhM,zt9,zuc] 9 0 f9 ⟨[(0,.bool),(1,.sl 3),(2,.clo 10 [.pc 0 0,.pc 1 0,.pc 2 0,.pc 3 0])],[c26,c45,c21,c39,.forow 43,.forow 43,.forow 68]⟩ [(.ret,H3)] (hfind [(5,.cut [(.normal,⟨[(1,.sl 3),(2,.clo 10 [.pc 0 0,.pc 1 0,.pc 2 0,.pc 3 0]),(6,.pc 7 0)],[c26,c45,c21,c39,.forow 43,.forow 43,.forow 68,.cell [.nils,.row 8,ii],.obj 0 103]⟩)]),(12,.loop ⟨[(2,.clo 10 [.pc 0 0,.pc 1 0,.pc 2 0,.pc 3 0]),(6,.pc 7 0),(18,.sl 3),(19,ii),(20,ii)],Hs⟩ [(.exit 0,⟨[(2,.clo 10 [.pc 0 0,.pc 1 0,.pc 2 0,.pc 3 0]),(6,.pc 7 0)],Hs⟩)]),(28,.loop ⟨[(2,.clo 10 [.pc 0 0,.pc 1 0,.pc 2 0,.pc 3 0]),(6,.pc 7 0),(9,.clo 21 [.tup [.pc 7 0]])],[c26,c45,c21,c39,.orow 43,.orow 43,.orow 68,c62,.row 3,.obj 0 103]⟩ [(.exit 2,H3)])])
instance:Ok zud:=kA
def zpi:=spA d [zt5,zud] 6 2 f6 ⟨[(0,.val 39)],[]⟩ [(.ret,⟨[(0,.row 0),(1,.row 1)],[.orow 43,.orow 43]⟩)] (hfind [(5,.draw (od [1,5,8326,8584,8,6,10,2,8,10]) [(.normal,⟨Gd,[c21,c56,c26,.orow 43,.orow 43]⟩)]),(14,.loop KO [(.exit 0,⟨[(1,.pc 0 0),(2,.pc 1 0),(3,.pc 2 0),(5,.pc 3 0),(6,.row 4)],Ke⟩)]),(26,.draw (od [1,3,5,7,9,11,13,15,19,21,23,25,9242,29,9886,30,26,33,34,16,29,30,33,34]) [(.normal,⟨[(1,.pc 0 0),(2,.pc 1 0),(3,.pc 2 0),(5,.pc 3 0),(6,.row 4),(7,ii),(20,ii),(21,ii)],Ke⟩)]),(32,.loop ⟨[(1,.pc 0 0),(2,.pc 1 0),(3,.pc 2 0),(5,.pc 3 0),(6,.row 4),(7,ii),(20,ii),(21,ii),(46,.row 5),(47,ii),(48,ii)],[c21,c39,c30,c38,.row 3,.row 3,.orow 43,.orow 43,.orow 68]⟩ [(.exit 2,KO)]),(43,.draw (od [1,3,5,7,9,11,13,14,16,19,20]) []),(49,.draw (od [1,3,4,6]) [])])
instance:Ok zpi:=kA
def zue:=spA d [zpd,zpi] 5 1 f5 ⟨[],[]⟩ Jr (hfind [(15,.cut [(.normal,⟨[(0,.bool)],[]⟩)])])
instance:Ok zue:=kA
def zfu:=spA d [zpd,zue,zpi] 3 1 f3 K8 Jr (hfind [(6,.cut [(.normal,⟨[(5,.row 0),(28,.bool)],[.row 39]⟩)]),(16,.loop HG [HT,(.exit 0,⟨[],[]⟩)]),(34,.loop Ka [HT,(.exit 2,HG)]),(48,.loop ⟨[(10,.row 0),(11,.row 1),(12,.row 2),(13,.row 3),(14,ii),(30,.row 4),(31,ii),(32,ii),(47,ii),(48,ii),(55,ii),(56,ii)],Gc⟩ [HT,(.exit 4,Ka)]),(60,.draw (od [1,3,5,7,9,11,13,15,17,19,21,23,25,27,29,31,33,35,37,39,41,43,45,47,49,51,53,54,57,58]) []),(62,.draw (od [1,3,5,7,9,11,13,15,17,19,21,23,25,27,29,31,33,35,37,39,41,43,45,47,49,51,53,55,57,59,61,63]) [(.normal,⟨[(10,.row 0),(11,.row 1),(12,.row 2),(13,.row 3),(14,ii),(30,.row 4),(31,ii),(32,ii),(47,ii),(48,ii),(55,ii),(56,ii),(118,.bool)],Gc⟩)])])
instance:Ok zfu:=kA
theorem zBx:zfu.OK prog:=Ok.o
end
end Go.Px
