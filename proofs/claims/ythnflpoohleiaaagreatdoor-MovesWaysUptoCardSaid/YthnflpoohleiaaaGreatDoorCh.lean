/- Part Ch. -/
import Derived.Test.YthnflpoohleiaaaGreatDoorSf
set_option linter.unusedVariables false
set_option linter.unusedSimpArgs false
namespace Go.Px
open Bool renaming false->d,true->j
open Nat renaming beq->m
open _root_.Option renaming some->i,none->q
open Go.Proofs Go.Proofs.Tryz
set_option maxRecDepth 100000
noncomputable section
theorem ZG:Tryz.prog.follows .mixedOrders=true:=jO
def GLk:World->FS->Prop:=λ_ Z=>(∃t p,Z 0 0=i (.iface t p))/\∃t p,Z 1 0=i (.iface t p)
theorem glm{Z τ:FS}{w w':World}{h:zc}(l:Z.le τ)(_:Ext w h w')(g:GLk w Z):GLk w' τ:=by
 obtain⟨⟨t,p,a⟩,c,p',b⟩:=g
 exact⟨⟨t,p,l _ _ _ a⟩,c,p',l _ _ _ b⟩
structure qr where
 k_:Int
 T_:Ut
 n_:Int
 a_:Int
structure q7 where
 Z_:(Sl qr)
 D_:Int
structure q8 where
 k_:Int
 T_:Ut
 n_:Int
 a_:Int
 K_:(Sl q8)
structure qt where
 N_:Ut
 z_:Int
structure qw where
 X_:Int
 Y_:Int
 C_:Int
structure qa where
 N_:Ut
 S_:Int
 o_:Int
 E_:(Sl qt)
 U_:(Sl qw)
structure qh where
 N_:Ut
 M_:Int
 t_:Int
structure qf where
 N_:Ut
 P_:(Sl qh)
 R_:qh
structure q9 where
 k_:Int
 T_:Ut
 n_:Int
 a_:Int
structure q6 where
 k_:Int
 T_:Ut
 n_:Int
 a_:Int
 K_:(Sl q6)
structure qn where
 N_:Ut
 z_:Int
structure qu where
 X_:Int
 Y_:Int
 C_:Int
structure qd where
 N_:Ut
 S_:Int
 o_:Int
 E_:(Sl qn)
 U_:(Sl qu)
structure qi where
 N_:Ut
 M_:Int
 t_:Int
structure qj where
 N_:Ut
 P_:(Sl qi)
 R_:qi
structure q13 where
 J_:(Sl q8)
 I_:(Sl qa)
 s_:(Sl qf)
 r_:(Sl q6)
 j_:(Sl qd)
 q_:(Sl qj)
structure qe where
 N_:Ut
 P_:Int
 V_:(Sl qh)
structure qz where
 N_:Ut
 n_:Int
structure qm where
 O_:Int
 a_:Int
 X_:Ut
 Y_:Ut
 A_:qz
 B_:qz
 Q_:(Sl qz)
 H_:Int
 h_:Bool
structure q1m where
 N_:Ut
 P_:(Sl Ut)
 L_:(Sl qm)
structure qg where
 N_:Ut
 P_:Int
 V_:(Sl qi)
structure qp where
 N_:Ut
 n_:Int
structure qq where
 O_:Int
 a_:Int
 X_:Ut
 Y_:Ut
 A_:qp
 B_:qp
 Q_:(Sl qp)
 H_:Int
 h_:Bool
structure q1n where
 N_:Ut
 P_:(Sl Ut)
 L_:(Sl qq)
structure q1w where
 J_:(Sl qe)
 w_:(Sl q1m)
 r_:(Sl qg)
 g_:(Sl q1n)
structure ql where
 c_:q1m
 F_:qe
 G_:(Sl qf)
 f_:(Sl qe)
 W_:(Sl qa)
structure q15 where
 c_:q1n
 F_:qg
 G_:(Sl qj)
 f_:(Sl qg)
 W_:(Sl qd)
abbrev DT:List (Nat×Type):=[(145,qr),(142,q7),(94,q8),(245,qt),(304,qw),(119,qa),(9,Ut),(85,qh),(122,qf),(158,q9),(98,q6),(255,qn),(258,qu),(202,qd),(3,Int),(206,qi),(208,qj),(54,q13),(34,qe),(75,qz),(78,qm),(31,q1m),(68,qg),(183,qp),(186,qq),(65,q1n),(59,q1w),(40,ql),(70,q15),(62,q15),(4,Bool),(22,(Sl Bool)),(44,(Int×Int)),(188,(Int×Bool))]
abbrev DD:Nat->Type:=zu5 DT
def zx8:(T:Nat)->Uv (MapT DD T):=λT=>if h:T=44 then i ⟨.i,.i,h ▸ rfl⟩ else if h:T=188 then i ⟨.i,.b,h ▸ rfl⟩ else q
def ET:List ((T:Nat)×TyE DD T):=[⟨145,j,[.int .i64,.str,.int .i64,.int .i64],λ(x:qr)=>(x.k_,x.T_,x.n_,x.a_,()),λ(a0,a,a2,a3,_)=>i (show qr from⟨a0,a,a2,a3⟩),λx y h=>by cases h;rfl⟩,
 ⟨142,j,[.sl 145,.int .i64],λ(x:q7)=>(x.Z_,x.D_,()),λ(a0,a,_)=>i (show q7 from⟨a0,a⟩),λx y h=>by cases h;rfl⟩,
 ⟨94,j,[.int .i64,.str,.int .i64,.int .i64,.sl 94],λ(x:q8)=>(x.k_,x.T_,x.n_,x.a_,x.K_,()),λ(a0,a,a2,a3,a4,_)=>i (show q8 from⟨a0,a,a2,a3,a4⟩),λx y h=>by cases h;rfl⟩,
 ⟨245,j,[.str,.int .i64],λ(x:qt)=>(x.N_,x.z_,()),λ(a0,a,_)=>i (show qt from⟨a0,a⟩),λx y h=>by cases h;rfl⟩,
 ⟨304,j,[.int .i64,.int .i64,.int .i64],λ(x:qw)=>(x.X_,x.Y_,x.C_,()),λ(a0,a,a2,_)=>i (show qw from⟨a0,a,a2⟩),λx y h=>by cases h;rfl⟩,
 ⟨119,j,[.str,.int .i64,.int .i64,.sl 245,.sl 304],λ(x:qa)=>(x.N_,x.S_,x.o_,x.E_,x.U_,()),λ(a0,a,a2,a3,a4,_)=>i (show qa from⟨a0,a,a2,a3,a4⟩),λx y h=>by cases h;rfl⟩,
 ⟨9,d,[.str],λ(x:Ut)=>(x,()),λ(a0,_)=>i (show Ut from a0),λx y h=>by cases h;rfl⟩,
 ⟨85,j,[.str,.int .i64,.int .i64],λ(x:qh)=>(x.N_,x.M_,x.t_,()),λ(a0,a,a2,_)=>i (show qh from⟨a0,a,a2⟩),λx y h=>by cases h;rfl⟩,
 ⟨122,j,[.str,.sl 85,.str,.int .i64,.int .i64],λ(x:qf)=>(x.N_,x.P_,x.R_.N_,x.R_.M_,x.R_.t_,()),λ(a0,a,a2,a3,a4,_)=>i (show qf from⟨a0,a,⟨a2,a3,a4⟩⟩),λx y h=>by cases h;rfl⟩,
 ⟨158,j,[.int .i64,.str,.int .i64,.int .i64],λ(x:q9)=>(x.k_,x.T_,x.n_,x.a_,()),λ(a0,a,a2,a3,_)=>i (show q9 from⟨a0,a,a2,a3⟩),λx y h=>by cases h;rfl⟩,
 ⟨98,j,[.int .i64,.str,.int .i64,.int .i64,.sl 98],λ(x:q6)=>(x.k_,x.T_,x.n_,x.a_,x.K_,()),λ(a0,a,a2,a3,a4,_)=>i (show q6 from⟨a0,a,a2,a3,a4⟩),λx y h=>by cases h;rfl⟩,
 ⟨255,j,[.str,.int .i64],λ(x:qn)=>(x.N_,x.z_,()),λ(a0,a,_)=>i (show qn from⟨a0,a⟩),λx y h=>by cases h;rfl⟩,
 ⟨258,j,[.int .i64,.int .i64,.int .i64],λ(x:qu)=>(x.X_,x.Y_,x.C_,()),λ(a0,a,a2,_)=>i (show qu from⟨a0,a,a2⟩),λx y h=>by cases h;rfl⟩,
 ⟨202,j,[.str,.int .i64,.int .i64,.sl 255,.sl 258],λ(x:qd)=>(x.N_,x.S_,x.o_,x.E_,x.U_,()),λ(a0,a,a2,a3,a4,_)=>i (show qd from⟨a0,a,a2,a3,a4⟩),λx y h=>by cases h;rfl⟩,
 ⟨3,d,[.int .i64],λ(x:Int)=>(x,()),λ(a0,_)=>i (show Int from a0),λx y h=>by cases h;rfl⟩,
 ⟨206,j,[.str,.int .i64,.int .i64],λ(x:qi)=>(x.N_,x.M_,x.t_,()),λ(a0,a,a2,_)=>i (show qi from⟨a0,a,a2⟩),λx y h=>by cases h;rfl⟩,
 ⟨208,j,[.str,.sl 206,.str,.int .i64,.int .i64],λ(x:qj)=>(x.N_,x.P_,x.R_.N_,x.R_.M_,x.R_.t_,()),λ(a0,a,a2,a3,a4,_)=>i (show qj from⟨a0,a,⟨a2,a3,a4⟩⟩),λx y h=>by cases h;rfl⟩,
 ⟨54,j,[.sl 94,.sl 119,.sl 122,.sl 98,.sl 202,.sl 208],λ(x:q13)=>(x.J_,x.I_,x.s_,x.r_,x.j_,x.q_,()),λ(a0,a,a2,a3,a4,a5,_)=>i (show q13 from⟨a0,a,a2,a3,a4,a5⟩),λx y h=>by cases h;rfl⟩,
 ⟨34,j,[.str,.int .i64,.sl 85],λ(x:qe)=>(x.N_,x.P_,x.V_,()),λ(a0,a,a2,_)=>i (show qe from⟨a0,a,a2⟩),λx y h=>by cases h;rfl⟩,
 ⟨75,j,[.str,.int .i64],λ(x:qz)=>(x.N_,x.n_,()),λ(a0,a,_)=>i (show qz from⟨a0,a⟩),λx y h=>by cases h;rfl⟩,
 ⟨78,j,[.int .i64,.int .i64,.str,.str,.str,.int .i64,.str,.int .i64,.sl 75,.int .i64,.bool],λ(x:qm)=>(x.O_,x.a_,x.X_,x.Y_,x.A_.N_,x.A_.n_,x.B_.N_,x.B_.n_,x.Q_,x.H_,x.h_,()),λ(a0,a,a2,a3,a4,a5,b,f,e,a9,c,_)=>i (show qm from⟨a0,a,a2,a3,⟨a4,a5⟩,⟨b,f⟩,e,a9,c⟩),λx y h=>by cases h;rfl⟩,
 ⟨31,j,[.str,.sl 9,.sl 78],λ(x:q1m)=>(x.N_,x.P_,x.L_,()),λ(a0,a,a2,_)=>i (show q1m from⟨a0,a,a2⟩),λx y h=>by cases h;rfl⟩,
 ⟨68,j,[.str,.int .i64,.sl 206],λ(x:qg)=>(x.N_,x.P_,x.V_,()),λ(a0,a,a2,_)=>i (show qg from⟨a0,a,a2⟩),λx y h=>by cases h;rfl⟩,
 ⟨183,j,[.str,.int .i64],λ(x:qp)=>(x.N_,x.n_,()),λ(a0,a,_)=>i (show qp from⟨a0,a⟩),λx y h=>by cases h;rfl⟩,
 ⟨186,j,[.int .i64,.int .i64,.str,.str,.str,.int .i64,.str,.int .i64,.sl 183,.int .i64,.bool],λ(x:qq)=>(x.O_,x.a_,x.X_,x.Y_,x.A_.N_,x.A_.n_,x.B_.N_,x.B_.n_,x.Q_,x.H_,x.h_,()),λ(a0,a,a2,a3,a4,a5,b,f,e,a9,c,_)=>i (show qq from⟨a0,a,a2,a3,⟨a4,a5⟩,⟨b,f⟩,e,a9,c⟩),λx y h=>by cases h;rfl⟩,
 ⟨65,j,[.str,.sl 9,.sl 186],λ(x:q1n)=>(x.N_,x.P_,x.L_,()),λ(a0,a,a2,_)=>i (show q1n from⟨a0,a,a2⟩),λx y h=>by cases h;rfl⟩,
 ⟨59,j,[.sl 34,.sl 31,.sl 68,.sl 65],λ(x:q1w)=>(x.J_,x.w_,x.r_,x.g_,()),λ(a0,a,a2,a3,_)=>i (show q1w from⟨a0,a,a2,a3⟩),λx y h=>by cases h;rfl⟩,
 ⟨40,j,[.str,.sl 9,.sl 78,.str,.int .i64,.sl 85,.sl 122,.sl 34,.sl 119],λ(x:ql)=>(x.c_.N_,x.c_.P_,x.c_.L_,x.F_.N_,x.F_.P_,x.F_.V_,x.G_,x.f_,x.W_,()),λ(a0,a,a2,a3,a4,a5,b,f,e,_)=>i (show ql from⟨⟨a0,a,a2⟩,⟨a3,a4,a5⟩,b,f,e⟩),λx y h=>by cases h;rfl⟩,
 ⟨70,j,[.str,.sl 9,.sl 186,.str,.int .i64,.sl 206,.sl 208,.sl 68,.sl 202],λ(x:q15)=>(x.c_.N_,x.c_.P_,x.c_.L_,x.F_.N_,x.F_.P_,x.F_.V_,x.G_,x.f_,x.W_,()),λ(a0,a,a2,a3,a4,a5,b,f,e,_)=>i (show q15 from⟨⟨a0,a,a2⟩,⟨a3,a4,a5⟩,b,f,e⟩),λx y h=>by cases h;rfl⟩,
 ⟨62,d,[.pz 70],λ(x:q15)=>(x,()),λ(a0,_)=>i (show q15 from a0),λx y h=>by cases h;rfl⟩,
 ⟨4,d,[.bool],λ(x:Bool)=>(x,()),λ(a0,_)=>i (show Bool from a0),λx y h=>by cases h;rfl⟩,
 ⟨22,d,[.sl 4],λ(x:(Sl Bool))=>(x,()),λ(a0,_)=>i (show(Sl Bool) from a0),λx y h=>by cases h;rfl⟩]
def CC:Cod:=zz5 DD ET GLk glm (zsj zx8) (mp:=zAH zx8) (nst:=λt=>bif m t 68 then 2 else bif m t 45 then 0 else bif m t 34 then 2 else bif m t 22 then 0 else 0) (own:=λt=>m t 68 || m t 45 || m t 34 || m t 22 || false) (bz:=λt=>m t 70 || false)
class Ok(P:Spec CC):Prop where
 o:P.OK prog
class Oks(Γ:List (Spec CC)):Prop where
 o:∀s∈Γ,s.OK prog
instance:Oks []:=⟨yJ⟩
instance {P:Spec CC}{Γ:List (Spec CC)}[a:Ok P][b:Oks Γ]:Oks (P::Γ):=⟨zy a.o b.o⟩
theorem okP(P:Spec CC)[a:Ok P]:P.OK prog:=a.o
def od:List Nat->List (Nat×Bool):=List.map λn=>(n / 2,m (n % 2) 1)
def spA(b:Bool)(Γ:List (Spec CC))(f nr:Nat)(fn:Func)(I:Sig)(O:List (XK×Sig))(H:Nat->Uv Hint):Spec CC:=⟨f,nr,I,O,λx=>we ⟨b⟩ Γ lpO prog fn nr I O H x⟩
theorem kA {b : Bool} {Γ : List (Spec CC)} {f nr : Nat} {fn : Func} {I : Sig} {O : List (XK × Sig)} {H : Nat -> Uv Hint} [h : Oks Γ] (e : (Tryz.prog.funcs[f]?, (fn.name == "runtime.NumGoroutine"), fn.body.isNone) = (i fn, d, d) := by kernel_rfl) : Ok (spA b Γ f nr fn I O H) :=
 ⟨yI h.o ZG ZF H (Prod.mk.inj e).1 (Prod.mk.inj (Prod.mk.inj e).2).1 (Prod.mk.inj (Prod.mk.inj e).2).2 λx=>rfl⟩
abbrev ii:Sh :=.int .i64
abbrev c0:ESh :=.cell [.sl 122,.sl 119,.row 1,ii,.pr 1 34 0]
abbrev c1:ESh :=.cell [ii,.str,ii,ii,.nils]
abbrev c2:ESh :=.cell [.val 142]
abbrev c3:ESh :=.cell [.row 1,ii,ii,ii,ii]
abbrev c4:ESh :=.cell [.sl 208,.sl 202,.row 1,ii,ii]
abbrev c5:ESh :=.cell [ii,ii,.str,.str,.str,ii,.str,ii,.nils,ii,.bool]
abbrev c6:ESh :=.cell [.val 94]
abbrev c7:ESh :=.cell [.val 98]
abbrev c8:ESh :=.cell [.val 85]
abbrev c9:ESh :=.cell [ii,.str,ii,ii,.row 4]
abbrev c10:ESh :=.cell [.str,ii,ii,.nils,.nils]
abbrev c11:ESh :=.cell [ii]
abbrev c12:ESh :=.cell [.val 206]
abbrev c13:ESh :=.cell [ii,ii,.str,.str,.str,ii,.str,ii,.row 2,ii,.bool]
abbrev c14:ESh :=.cell [ii,ii,.str,.str,.str,ii,.str,ii,.row 3,ii,.bool]
abbrev c15:ESh :=.cell [.sl 122,.sl 119,.row 1,ii,.pnil]
abbrev c16:ESh :=.cell [.str,ii,ii,.row 1,.row 2]
abbrev c17:ESh :=.cell [.str,.nils,.str,ii,ii]
abbrev c18:ESh :=.cell [.val 40]
abbrev c19:ESh :=.cell [.row 1,.row 2,ii]
abbrev c20:ESh :=.cell [ii,.str,ii,ii,.row 3]
abbrev c21:ESh :=.cell [.val 158]
abbrev c22:ESh :=.cell [.val 78]
abbrev c23:ESh :=.cell [.str]
abbrev c24:ESh :=.cell [.nils,.nils,.nils,.nils,.nils,.nils]
abbrev c25:ESh :=.cell [.row 1]
abbrev c26:ESh :=.cell [.str,ii,.nils]
abbrev c27:ESh :=.cell [.row 2]
abbrev c28:ESh :=.cell [.str,ii,ii,.row 2,.nils]
abbrev c29:ESh :=.cell [.sl 208,.sl 202,.row 2,ii,ii]
abbrev c30:ESh :=.cell [.nils]
abbrev c31:ESh :=.cell [.str,ii,ii,.row 6,.nils]
abbrev c32:ESh :=.cell [.str,ii,ii,.row 2,.row 3]
abbrev c33:ESh :=.cell [.str,ii,ii,.row 6,.row 7]
abbrev c34:ESh :=.cell [.str,ii,ii,.row 5,.nils]
abbrev c35:ESh :=.cell [.sl 122,.sl 119,.row 5,ii,.pnil]
abbrev c36:ESh :=.cell [.str,.row 3,.str,ii,ii]
abbrev c37:ESh :=.cell [.str,.row 3,.nils]
abbrev c38:ESh :=.cell [ii,.str,ii,ii,.row 2]
abbrev c39:ESh :=.cell [.str,.nils,.nils]
abbrev c40:ESh :=.cell [.row 3,.row 2,ii]
abbrev c41:ESh :=.cell [.row 8,.row 4,ii]
abbrev c42:ESh :=.cell [.row 4]
abbrev c43:ESh :=.cell [.row 3,ii,ii,ii,ii]
abbrev c44:ESh :=.cell [.val 145]
abbrev c45:ESh :=.cell [.str,ii,ii,.row 7,.nils]
abbrev c46:ESh :=.cell [.str,.row 4,.str,ii,ii]
abbrev c47:ESh :=.cell [.str,.row 5,.str,ii,ii]
abbrev c48:ESh :=.cell [.nils,.nils,.nils,.nils]
abbrev c49:ESh :=.cell [.row 5]
abbrev c50:ESh :=.cell [.str,ii,.row 5]
abbrev c51:ESh :=.cell [.str,ii,.row 1]
abbrev c52:ESh :=.cell [.str,ii,ii,.row 4,.nils]
abbrev c53:ESh :=.cell [.row 3]
abbrev c54:ESh :=.cell [ii,.str,ii,ii,.row 5]
abbrev c55:ESh :=.cell [.str,ii,.row 7]
abbrev c56:ESh :=.cell [.val 54]
abbrev c57:ESh :=.cell [.row 4,.row 5,ii]
abbrev c58:ESh :=.cell [.str,ii,.row 6]
abbrev c59:ESh :=.cell [ii,ii]
abbrev GJ:=XK×Sig
abbrev GL:=List (XK×Sig)
abbrev GM:=List ESh
abbrev GN:=List (Nat×Sh)
def Ja:GJ:=(.pan (.ifc 138 (.agg [ii,ii])),⟨[],[c2]⟩)
def Jb:GL:=[(.normal,⟨[(4,.bool)],[]⟩)]
def J2:GM:=[c0,.forow 34]
def Jc:GJ:=(.pan (.ifc 164 (.agg [ii,ii])),⟨[],J2⟩)
def HP:Sig:=⟨[],[c0,.orow 34]⟩
def JK:GJ:=(.pan (.ifc 164 (.agg [ii,ii])),HP)
def JX:Sig:=⟨[(0,.pc 0 0),(4,.pc 2 0),(11,.sl 94),(12,ii),(13,ii)],[c0,.orow 34,c8]⟩
def Jd:GL:=[JK,(.normal,JX)]
def Je:Sig:=⟨[(2,.sl 4),(11,.pc 0 0),(14,.row 1),(16,ii),(17,ii),(38,.row 2),(39,ii),(40,ii)],[c18,.obj 0 44,.row 40]⟩
def Jf:GJ:=(.normal,⟨[(0,.pc 0 0),(2,.pc 1 0),(3,.pc 2 0)],[c2,c1,c1]⟩)
def Jg:GM:=[c19,.row 3,.obj 0 188]
def Jh:GL:=[(.ret,⟨[(0,.agg [ii,.str,ii,ii,.row 2])],[c3,.row 158,.row 98]⟩)]
def Jz:GM:=[c3,.row 158,c1,c9,.row 98]
def Ji:GJ:=(.normal,⟨[(0,.pc 0 0),(2,.pc 2 0),(5,.pc 3 0)],Jz⟩)
def Jj:GJ:=(.pan (.ifc 164 (.agg [ii,ii])),⟨[(6,.pc 1 0),(7,.pc 2 0),(8,.pc 3 0)],[c6,c30,c11,c11]⟩)
def Jk:GJ:=(.ret,⟨[(0,.agg [ii,.str,ii,ii,.row 1])],[c2,.row 94]⟩)
def KY:GM:=[c16,.row 245,.row 304]
def Jl:GJ:=(.pan (.ifc 194 (.agg [ii,ii])),⟨[],KY⟩)
def Jm:Sig:=⟨[(0,.pc 0 0)],[c3,.row 158]⟩
def Jn:GL:=[(.ret,⟨[(0,.bool)],[]⟩)]
def Jo:GJ:=(.normal,⟨[(0,.pc 0 0),(4,.pc 2 0)],[c25,.row 78,c14,.row 75]⟩)
def Gq:GM:=[c20,c11,c11,.row 94]
def Hh:Sig:=⟨[(2,.pc 0 0),(3,.pc 1 0),(4,.pc 2 0)],Gq⟩
def Jp:GL:=[(.pan (.ifc 138 (.agg [ii,ii])),Hh),(.normal,⟨[(2,.pc 0 0),(3,.pc 1 0),(4,.pc 2 0),(6,.pc 3 0)],[c9,c11,c11,c2,.row 94]⟩)]
def Jq:GJ:=(.normal,⟨[(0,.pc 0 0),(2,.pc 1 0)],[c2,c1]⟩)
def Jr:GJ:=(.ret,⟨[(4,.pc 1 0),(5,ii),(6,ii)],[.row 202,c28,.row 255]⟩)
def Js:GL:=[(.normal,⟨[(29,.bool)],[]⟩)]
def Jt:GL:=[(.normal,⟨[(2,.pc 0 0),(4,.pc 1 0)],[c5,c13,.row 183]⟩)]
def Ju:Sig:=⟨[(2,.pc 1 0)],[c2,c6]⟩
def HT:GM:=[c15,.forow 34]
def Jv:GJ:=(.pan (.ifc 164 (.agg [ii,ii])),⟨[],HT⟩)
def Jw:Sig:=⟨[(1,.clo 64 [.tup [.pc 0 0]]),(3,.pc 2 0),(6,.row 6),(19,.row 7),(20,ii),(21,ii)],[c41,c18,c49,.gone,.obj 0 188,.orow 22,.row 4,.row 3,.row 3]⟩
def Jx:GL:=[(.ret,⟨[(0,ii)],[]⟩)]
def Jy:GL:=[(.normal,⟨[(2,.pc 0 0),(3,.pc 1 0)],[c5,c13,.row 183]⟩)]
def J0:Sig:=⟨[(0,.pc 0 0)],[c2]⟩
def Hp:Sig:=⟨[],[c4,.orow 68]⟩
def J1:GL:=[(.ret,⟨[(6,ii)],[c4,.orow 68]⟩),(.normal,Hp)]
def J3:GL:=[(.normal,⟨[(0,.pc 0 0),(6,.pc 2 0)],[c25,.row 78,c14,.row 75]⟩)]
def J4:Sig:=⟨[(4,.pc 0 0),(5,.pc 1 0),(7,.pc 2 0),(12,.pc 3 0),(15,.row 4),(17,ii),(18,.pc 5 0),(19,.pc 6 0),(70,.sl 94),(71,ii),(72,ii)],[c24,c48,c56,c7,.orow 34,.cell [.sl 208,.sl 202,.row 7,ii,ii],.cell [.row 4,.row 8,.row 7,.row 9],.orow 68,.row 31,.row 65]⟩
def J5:GJ:=(.ret,⟨[(4,.pc 0 0),(5,ii),(6,ii)],[c17]⟩)
def J6:Sig:=⟨[(3,.pc 0 0),(6,.pc 1 0),(7,.pc 2 0),(8,.pc 3 0),(9,.pc 4 0),(20,.sl 94),(21,ii),(22,ii)],[c6,c30,c11,c11,c35,.orow 34]⟩
def J7:Sig:=⟨[(0,.str),(1,ii),(4,.pc 0 0),(6,.pc 1 0),(7,ii),(13,ii),(14,.bool)],[c21,c21]⟩
def G1:GM:=[c3,.row 158,c1,c1]
def J8:Sig:=⟨[(0,.pc 0 0),(2,.pc 2 0),(3,.pc 3 0)],G1⟩
def J9:GJ:=(.pan (.ifc 194 (.agg [ii,ii])),⟨[],[]⟩)
def Hc:GM:=[c4,.forow 68,c12,c12]
def JA:GL:=[(.ret,⟨[(6,.pc 2 0),(7,ii)],[c4,.forow 68,c12]⟩),(.normal,⟨[(6,.pc 2 0),(8,.pc 3 0)],Hc⟩)]
def JB:GL:=[(.normal,⟨[(1,.sl 202),(2,.pc 0 0),(4,.pc 1 0),(6,.pc 2 0)],[c7,c12,c12]⟩)]
def GG:GM:=[c16,.row 245,.row 304,c6,c59]
def JC:Sig:=⟨[(0,.pc 0 0),(2,.sl 94),(4,.pc 3 0),(6,.pc 4 0),(11,.sl 94),(12,ii),(13,ii)],GG⟩
def JD:GJ:=(.normal,⟨[(4,.pc 1 0),(7,.row 2),(8,.row 3),(10,.pc 4 0),(16,ii)],[.row 202,c10,.row 98,.row 98,c34,.row 255]⟩)
def JE:GJ:=(.normal,⟨[(0,.str),(5,.row 0),(6,ii),(7,.pc 1 0),(8,ii)],[.row 145,c44]⟩)
def JF:Sig:=⟨[(2,.pc 0 0),(8,.pc 1 0),(9,.pc 2 0)],[c1,c43,c9,.row 158,.row 98]⟩
def JG:GM:=[.row 202,c10,.row 98,.row 98,c7,c31,.row 255]
def JH:Sig:=⟨[(2,.pc 0 0),(9,ii),(10,.row 1),(12,ii),(13,.pc 2 0),(19,.row 3),(22,.pc 4 0),(72,.sl 94),(73,ii),(74,ii)],[c24,.row 122,c7,.row 208,.cell [.row 5,.sl 119,.row 1,.row 6,.sl 202,.row 3],.row 94,.row 98]⟩
def Gv:GM:=[c0,.forow 34,c8,c8]
def JI:GJ:=(.normal,⟨[(0,.pc 0 0),(4,.pc 2 0),(5,.pc 3 0)],Gv⟩)
def JJ:Sig:=⟨[(2,.pc 1 0),(3,.pc 2 0),(4,.pc 3 0)],[c6,c42,c11,c11,.row 119]⟩
def JL:Sig:=⟨[(2,.pc 0 0),(3,.pc 1 0),(4,.pc 2 0),(17,.sl 94),(18,ii),(19,ii)],[c39,c37,c42,.row 9,.row 78]⟩
def JM:Sig:=⟨[(2,.pc 1 0),(3,.pc 2 0),(4,.pc 3 0),(9,.sl 94),(10,ii),(11,ii)],[c6,c42,c11,c11,.row 119]⟩
def JN:GJ:=(.ret,⟨[(2,.nils),(3,ii),(4,ii)],[]⟩)
def JO:Sig:=⟨[(1,.clo 64 [.tup [.pc 0 0]]),(3,.pc 2 0),(6,.row 6),(8,ii),(19,.row 7),(20,ii),(21,ii),(39,ii),(40,ii)],[c41,c18,c49,.gone,.obj 0 188,.orow 22,.row 4,.row 3,.row 3]⟩
def JP:GN:=[(0,.pc 0 0),(1,.val 94)]
def JQ:GM:=[.row 202,c10,.row 98,.row 98,c33,.row 3,.row 255,.row 258]
def JR:Sig:=⟨[(2,.sl 4),(38,.row 0),(39,ii),(40,ii)],[.row 40]⟩
def JS:Sig:=⟨[(0,.sl 119),(3,.pc 0 0),(4,.pc 1 0),(5,.sl 94),(6,.row 2),(7,.pc 3 0),(9,.pc 4 0),(10,ii),(33,.sl 94),(34,ii),(35,ii)],[c6,c10,.row 94,c34,c6,.row 245]⟩
def JT:GL:=[(.normal,⟨[(1,.pc 0 0),(3,.nils),(8,.bool)],[c22]⟩)]
def JU:Sig:=⟨[(6,.pc 1 0),(7,.pc 2 0),(8,.pc 3 0),(9,.pc 4 0),(46,.sl 94),(47,ii),(48,ii)],[c6,c30,c11,c11,.cell [.sl 122,.sl 119,.row 5,ii,.pr 5 34 0],.orow 34]⟩
def JV:Sig:=⟨[],[c27,.gone,.row 78]⟩
def JW:Sig:=⟨[(4,.pc 1 0),(7,.row 2),(8,.row 3),(10,.pc 4 0),(16,ii),(17,ii)],[.row 202,c10,.row 98,.row 98,.cell [.str,ii,ii,.row 5,.row 6],.row 255,.row 258]⟩
def JY:GL:=[(.ret,⟨[(0,.val 98)],[c3,.row 158]⟩)]
def JZ:Sig:=⟨[(0,.str)],[]⟩
def Ka:GN:=[(0,.pc 0 0),(1,ii)]
def Kb:GL:=[(.ret,⟨[(4,ii)],[c23]⟩),(.exit 0,⟨[],[c23]⟩)]
def Kc:GN:=[(0,.str),(5,.row 0),(6,ii)]
def Kd:Sig:=⟨[(2,.row 0),(3,.row 1),(7,.sl 94),(8,ii),(9,ii)],[.row 94,.row 94]⟩
def Ke:GM:=[c2,c1,c20,.row 94]
def Kf:Sig:=⟨[(0,.val 94)],[]⟩
def Kg:Sig:=⟨[(0,.sl 119),(3,.pc 0 0),(4,.pc 1 0),(5,.sl 94),(6,.row 2),(7,.pc 3 0),(33,.sl 94),(34,ii),(35,ii)],[c6,c10,.row 94,c52,.row 245]⟩
def Kh:Sig:=⟨[(0,.val 40),(1,ii)],[]⟩
def Ki:GN:=[(1,ii),(2,.pc 0 0),(5,.row 1),(6,ii)]
def Kj:GJ:=(.ret,⟨[(4,.pc 1 0),(5,ii),(6,ii)],[.row 202,c32,.row 255,.row 258]⟩)
def Kk:GJ:=(.ret,⟨[(0,.val 94)],[c2]⟩)
def Kl:GJ:=(.ret,⟨[(0,.row 1)],[c2,.row 94]⟩)
def Km:GM:=[.row 202,c10,.row 98,.row 98,c7,c45,c7,.row 255]
def Ko:GN:=[(0,.row 0),(1,ii),(2,ii)]
def Kq:Sig:=⟨[(0,.pc 0 0),(1,.pr 1 68 0),(2,.sl 98),(6,ii)],[c4,.orow 68]⟩
def Kr:Sig:=⟨[(1,.sl 119),(2,.pc 0 0),(4,.pc 1 0),(7,.pc 2 0),(8,ii),(11,.pc 3 0),(29,.sl 94),(30,ii),(31,ii)],[c6,c17,c46,c8,.row 85]⟩
def Ks:GN:=[(0,.pc 0 0),(1,.str)]
def Kt:Sig:=⟨[(0,.pc 0 0),(3,.pc 2 0),(4,.pc 3 0),(5,ii),(6,.pc 4 0),(27,.sl 94),(28,ii),(29,ii)],[c15,.forow 34,c6,c26,c50,.row 85]⟩
def Ku:GM:=[c40,.gone,.obj 0 188,.row 3]
def Kv:GL:=[(.normal,⟨[(0,.pc 0 0),(3,.pc 2 0),(4,.pc 3 0),(5,ii),(6,.pc 4 0),(7,ii),(11,.pc 5 0)],[c4,.forow 68,c7,c26,c58,c12,.row 206]⟩)]
def Kx:Sig:=⟨[(1,.pc 0 0),(12,.row 1),(13,ii),(14,ii)],[c18,.orow 22]⟩
def Ky:GJ:=(.ret,⟨[(4,.pc 2 0)],[c0,.forow 34,c8]⟩)
def Kz:GJ:=(.ret,⟨[(6,.bool)],[]⟩)
def K0:GL:=[(.ret,⟨[(0,.bool)],[c23]⟩)]
def K6:GL:=[(.normal,⟨[(2,.bool)],[]⟩)]
def K7:GJ:=(.ret,⟨[(4,.nils),(5,ii),(6,ii)],[]⟩)
def K8:GJ:=(.exit 0,⟨[(5,.row 1)],[c2,.row 94]⟩)
def K9:Sig:=⟨[(0,.int .u8)],[]⟩
def KC:GJ:=(.normal,⟨[(0,.pc 0 0),(4,.pc 1 0),(5,.pc 2 0)],Ke⟩)
def KD:Sig:=⟨[(0,.val 98)],[]⟩
def KE:Sig:=⟨[(4,.pc 1 0),(7,.row 2),(8,.row 3),(10,.pc 4 0),(16,ii),(17,ii),(18,.row 5),(19,ii)],JQ⟩
def KF:Sig:=⟨[(1,.sl 202),(2,.pc 0 0),(4,.pc 1 0),(7,.pc 2 0),(8,ii),(9,ii)],[c7,c17,c36,.row 206]⟩
def KG:Sig:=⟨[(0,.pc 0 0),(4,.pc 2 0),(5,.pc 3 0)],Jz⟩
def KH:GN:=[(0,.pc 0 0),(1,ii),(2,ii)]
def KI:GL:=[(.ret,⟨[(0,ii)],[.forow 68]⟩)]
def KJ:GL:=[(.normal,⟨[(2,.pc 0 0),(3,.pc 1 0)],[c5,c5]⟩)]
def KL:Sig:=⟨[(2,.pc 0 0),(9,.pc 1 0),(11,.row 2),(48,.sl 85),(49,ii),(50,ii)],[c18,c22,.row 3]⟩
def KM:Sig:=⟨[(0,.row 0),(4,.pc 1 0),(7,.row 2),(8,.row 3),(9,.pc 4 0),(10,.pc 5 0),(12,ii)],JG⟩
def KO:GL:=[(.ret,⟨[(4,ii)],[]⟩),(.exit 0,⟨[],[]⟩)]
def KP:GJ:=(.ret,⟨[(6,ii)],[.forow 68]⟩)
def KQ:GN:=[(0,.pc 0 0),(1,.pc 1 0),(2,.pc 2 0),(3,.nili)]
def KR:Sig:=⟨[(0,.str),(1,.str)],[]⟩
def KT:Sig:=⟨[(0,.agg [ii,ii,.str,.str,.str,ii,.str,ii,.row 0,ii,.bool])],[.row 183]⟩
def KU:GJ:=(.ret,⟨[(2,ii),(3,ii)],[]⟩)
def KV:Sig:=⟨[],[.cell [.row 6,.row 4,ii],c18,c49,.gone,.obj 0 188,.orow 22,.row 3]⟩
def KW:Sig:=⟨[(0,.pc 0 0),(2,.pc 1 0),(3,.pc 2 0),(69,.pc 3 0)],[c2,c1,c1,.cell []]⟩
def KX:GJ:=(.normal,⟨[(2,.pc 1 0),(3,.pc 2 0)],Ke⟩)
def KZ:GJ:=(.ret,⟨[(2,.pc 1 0)],[c2,c38,.row 94]⟩)
def Ha:GL:=[(.ret,⟨[(0,ii)],[c23]⟩)]
def Hb:Sig:=⟨[(1,.sl 119),(7,.row 0),(14,.sl 94),(15,ii),(16,ii)],[.row 122]⟩
def He:GL:=[(.normal,⟨[(0,.str),(1,ii),(2,ii),(3,ii),(4,ii),(11,.row 0)],[.row 258]⟩)]
def Hf:GN:=[(0,.pc 0 0),(1,.pr 1 68 0),(2,.val 98)]
def Hg:GL:=[(.normal,⟨[(0,.pc 0 0),(2,.pc 1 0),(3,.pc 2 0),(18,.bool)],[c2,c1,c1]⟩)]
def Hi:Sig:=⟨[(0,.val 98),(1,.sl 202)],[]⟩
def Hj:Sig:=⟨[(0,.val 94),(1,.sl 119)],[]⟩
def Hk:Sig:=⟨[(0,.str),(1,ii),(4,.pc 0 0),(6,.pc 1 0),(7,ii)],[c21,c21]⟩
def Hl:Sig:=⟨[(3,.row 0),(26,.row 1),(27,ii),(28,ii)],[.row 9,.row 75]⟩
def Hm:Sig:=⟨[(1,.sl 202),(2,.pc 0 0),(7,.row 1),(8,ii)],[c7,.row 208]⟩
def Hn:Sig:=⟨[(0,.str),(1,ii),(2,ii)],[]⟩
def Ho:GM:=[c7,c29,.orow 68]
def Hq:Sig:=⟨[],[c3,.row 158]⟩
def Hs:GL:=[(.ret,⟨[(0,.row 0)],[.row 3]⟩)]
def Ht:GL:=[(.ret,⟨[(4,ii)],[.row 85,c8]⟩),(.exit 0,⟨[],[.row 85,c8]⟩)]
def Hu:Sig:=⟨[(0,.pc 0 0),(4,.pc 2 0),(5,.pc 3 0),(7,.bool)],Jz⟩
def Hv:Sig:=⟨[(0,.pc 0 0),(4,.pc 2 0),(5,.pc 3 0),(6,.bool)],Jz⟩
def Hw:GJ:=(.ret,⟨[(4,.row 0)],[.row 3]⟩)
def Hx:Sig:=⟨[(0,.row 0),(1,.clo 125 [.pc 1 0])],[.row 85,c8]⟩
def Hy:Sig:=⟨[(0,.row 0),(1,.clo 123 [.pc 1 0])],[.row 85,c8]⟩
def Hz:Sig:=⟨[(0,.pc 0 0),(3,.pc 1 0),(4,.pc 2 0)],[c2,c6,c1]⟩
def H0:Sig:=⟨[(0,.ifc 187 (.pc 0 0)),(1,ii),(2,ii),(7,ii)],Jg⟩
def H3:GM:=[c6,c30,c11,c11,.cell [.sl 122,.sl 119,.row 5,ii,.und],.orow 34]
def H4:GJ:=(.ret,⟨[],J2⟩)
def H5:Sig:=⟨[(1,.pc 0 0),(5,.row 1),(6,ii)],[c7,.row 202]⟩
def H6:GN:=[(0,.agg [ii,.str,ii,ii,.nils])]
def H7:GL:=[(.ret,⟨[(10,.row 0)],[.row 304]⟩),(.normal,⟨[],[]⟩)]
def H8:Sig:=⟨[(0,.str),(1,ii),(2,ii),(3,ii),(4,ii)],[]⟩
def H9:Sig:=⟨[(0,.sl 94),(1,.clo 162 [.pc 0 0])],[c23]⟩
def HA:GJ:=(.normal,⟨[],J2⟩)
def HB:GJ:=(.exit 0,⟨[],[.forow 68]⟩)
def HC:Sig:=⟨[(0,.pc 0 0),(2,.pc 2 0),(3,.pc 3 0)],Jz⟩
def HD:Sig:=⟨[(0,.pc 0 0),(2,.pc 1 0),(3,.pc 2 0)],Ke⟩
def HE:GN:=[(0,.pc 0 0),(3,.pc 2 0),(4,.pc 3 0),(5,ii),(6,.pc 4 0)]
def HF:Sig:=⟨[(2,.pc 2 0)],[c3,.row 158,c20,.row 98]⟩
def HG:GL:=[(.exit 0,⟨[(1,ii)],[]⟩)]
def HH:GJ:=(.ret,⟨[(0,.val 85)],J2⟩)
def HI:GL:=[(.ret,⟨[(4,ii)],[c22]⟩),(.exit 0,⟨[],[c22]⟩)]
def HJ:Sig:=⟨[(0,.pr 0 68 0),(1,.str)],[.forow 68]⟩
def HK:GM:=[c7,c17,c47,c7,c12,.row 206]
def HL:Sig:=⟨[(3,.pc 1 0),(4,.pc 2 0)],[c2,c6,c1]⟩
def HM:Sig:=⟨[(3,.pc 0 0),(7,.pc 1 0),(10,ii)],Ho⟩
def HN:Sig:=⟨[(0,.val 206),(1,ii)],[c4,.forow 68]⟩
def HO:GL:=[(.ret,⟨[(4,.sl 85)],[]⟩),(.normal,⟨[],[]⟩)]
def HQ:Sig:=⟨[(0,.str),(1,ii),(2,.clo 78 [])],[]⟩
def HR:Sig:=⟨[(0,.str),(1,ii),(2,.clo 74 [])],[]⟩
def HS:Sig:=⟨[(0,.str),(1,ii),(2,.clo 73 [])],[]⟩
def HU:Sig:=⟨[(0,.ifc 187 (.pc 0 0)),(1,ii)],Jg⟩
def HV:GN:=[(0,.pc 0 0),(4,.pc 2 0),(5,.pc 3 0),(10,.pc 4 0)]
def HW:GL:=[(.pan (.ifc 194 (.agg [ii,ii])),JJ),(.normal,JM)]
def HX:GM:=[c18,c27,.orow 22]
def HY:Sig:=⟨[(0,.val 94),(1,.pc 0 0)],[c23]⟩
def HZ:GM:=[.forow 34,c6]
def Ga:GN:=[(4,.pc 0 0),(6,.pc 1 0)]
def Gb:GN:=[(0,.val 85),(1,.pc 0 0)]
def Gc:Sig:=⟨[(4,.pc 1 0)],[c2,c38,.row 94]⟩
def Gd:Sig:=⟨[(7,.pc 0 0)],[c4,.orow 68]⟩
def Ge:GM:=[c53,c11,c11,.forow 34]
def Gf:GM:=[c0,.forow 34,c6,c8,c8]
def Gg:Sig:=⟨[(4,.pc 0 0),(5,ii)],[c21]⟩
def Gh:Sig:=⟨[(0,.bool)],[c3,.row 158]⟩
def Gj:GM:=[c53,c11,c11,.row 119]
def Gk:GM:=[c4,.forow 68,c7,c26,c55,c7,c12,.row 206]
def Gl:GM:=[c18,c27,.forow 22,c57,.row 3,.obj 0 188]
def Gm:Sig:=⟨[(0,.val 145),(1,ii)],[]⟩
def Gn:Sig:=⟨[(0,.bool)],[.row 85,c8]⟩
def Gp:Sig:=⟨[(0,.val 98),(1,ii)],[]⟩
def Gs:Sig:=⟨[(5,.row 0)],[.row 3]⟩
def Gt:Sig:=⟨[(0,ii)],[.row 85,c8]⟩
def Gu:Sig:=⟨[(0,.row 0)],[.row 4]⟩
def Gw:GL:=[(.ret,⟨[],Ku⟩)]
def Gx:Sig:=⟨[(0,.str),(1,ii)],[]⟩
def Gy:Sig:=⟨[(0,.ifc 3 (ii))],Ku⟩
def Gz:GL:=[(.normal,J8)]
def G0:Sig:=⟨[(0,.val 145)],[c2]⟩
def G3:GM:=[c25,.row 78,c6,c5]
def G4:Sig:=⟨[(1,ii),(7,ii)],Jg⟩
def G5:GM:=[c4,.forow 68,c7,c26,c50,.row 206]
def G6:Sig:=⟨[],[c4,.forow 68]⟩
def G7:Sig:=⟨[(0,.bool)],[c22]⟩
def G8:Sig:=⟨[(0,.val 75)],[]⟩
def G9:Sig:=⟨[(0,.val 40)],[]⟩
def GA:Sig:=⟨[(0,.pc 0 0)],Jg⟩
def GB:Sig:=⟨[(0,.bool)],[c8]⟩
def GC:Sig:=⟨[(0,.bool)],[c2]⟩
def GD:Sig:=⟨[(0,ii)],[c22]⟩
def GE:Sig:=⟨[(0,.bool)],Jg⟩
def GF:GM:=[c18,.obj 0 44,.row 40,.row 3]
def GH:GM:=[c4,.orow 68,c7]
def GI:GL:=[(.exit 0,⟨[(3,ii)],[]⟩)]
def P0:=spA d [] 73 1 f73 K9 Jn (hfind [])
instance:Ok P0:=kA
def P1:=spA d [P0] 72 1 f72 HS Jx (hfind [(4,.loop HS HG),(7,.cut [(.normal,⟨[(0,.str),(1,ii),(2,.clo 73 []),(17,.bool)],[]⟩)])])
instance:Ok P1:=kA
def P2:=spA d [] 74 1 f74 K9 Jn (hfind [(3,.cut K6)])
instance:Ok P2:=kA
def P3:=spA d [P2] 72 1 f72 HR Jx (hfind [(4,.loop HR HG),(7,.cut [(.normal,⟨[(0,.str),(1,ii),(2,.clo 74 []),(17,.bool)],[]⟩)])])
instance:Ok P3:=kA
def I4:Sig:=Hn
def O4:List (XK×Sig):=[(.ret,⟨[(0,ii),(1,.nili)],[]⟩),(.ret,⟨[(0,ii),(1,.ifc 310 (.und))],[]⟩)]
def F4(x:I4.ty CC):Uv (zg CC O4):=wx x
def P4:Spec CC:=⟨130,2,I4,O4,F4⟩
theorem K4:P4.OK prog:=ziY (fn:=f130) jO jO jO (λs hs v h w=>Tryz.strconv_ParseInt_10_at64_ok s hs v h w) (λs hs h w Z b c=>by
    obtain⟨⟨t,p,a⟩,_⟩:=b
    refine(Tryz.strconv_ParseInt_10_at64_syntax s hs h _ w (c 0 0 _ a) (.inr ⟨_,_,rfl⟩)).mono ?_
    rintro e w' ⟨N,rfl,_,_,hb⟩
    exact⟨_,rfl,hb⟩) (λs hs h w Z b c=>by
    obtain⟨_,t,p,a⟩:=b
    refine(Tryz.strconv_ParseInt_10_at64_range s hs h _ w (c 1 0 _ a) (.inr ⟨_,_,rfl⟩)).mono ?_
    rintro e w' ⟨N,rfl,_,_,hb⟩
    exact⟨_,rfl,hb⟩)
instance:Ok P4:=⟨K4⟩
def P5:=spA d [] 76 1 f76 K9 Jn (hfind [(3,.cut K6)])
instance:Ok P5:=kA
def P6:=spA d [P4,P5] 75 2 f75 Hn [(.ret,Gm)] (hfind [(5,.cut [(.normal,⟨[(0,.str),(1,ii),(2,ii),(6,.pc 0 0),(8,.str),(9,ii),(10,.nili)],[c44]⟩),(.normal,⟨[(0,.str),(1,ii),(2,ii),(6,.pc 0 0),(8,.str),(9,ii),(10,.ifc 310 (.und))],[c44]⟩)])])
instance:Ok P6:=kA
def P7:=spA d [P5,P2] 78 1 f78 K9 Jn (hfind [(3,.cut K6)])
instance:Ok P7:=kA
def P8:=spA d [P7] 72 1 f72 HQ Jx (hfind [(4,.loop HQ HG),(7,.cut [(.normal,⟨[(0,.str),(1,ii),(2,.clo 78 []),(17,.bool)],[]⟩)])])
instance:Ok P8:=kA
def P9:=spA d [] 131 1 f131 JZ Jn (hfind [(9,.cut Jb),(13,.cut Jb),(17,.cut Jb),(21,.cut Jb),(25,.cut Jb),(29,.cut Jb),(33,.cut Jb),(37,.cut Jb),(41,.cut Jb),(45,.cut Jb),(49,.cut Jb),(53,.cut Jb),(57,.cut Jb),(61,.cut Jb),(65,.cut Jb),(69,.cut Jb),(73,.cut Jb),(77,.cut Jb),(81,.cut Jb)])
instance:Ok P9:=kA
def P10:=spA d [P9] 77 2 f77 Hn [(.ret,Gm)] (hfind [(15,.cut [(.normal,⟨[(6,.pc 0 0),(8,.pc 1 0)],[c44,c44]⟩)])])
instance:Ok P10:=kA
def P11:=spA d [] 169 1 f169 KR Jn (hfind [(3,.cut Jb)])
instance:Ok P11:=kA
def P12:=spA d [P11] 132 1 f132 KR Jn (hfind [])
instance:Ok P12:=kA
def I13:Sig:=⟨[(0,.str),(1,.int .u8)],[]⟩
def O13:List (XK×Sig):=Jx
def F13(x:I13.ty CC):Uv (zg CC O13):=Wj x
def P13:Spec CC:=⟨133,1,I13,O13,F13⟩
theorem K13:P13.OK prog:=zhB (fn:=f133) jO jO jO λs c w=>Tryz.strings_IndexByte s c w
instance:Ok P13:=⟨K13⟩
def P14:=spA d [P12,P13] 79 1 f79 JZ [(.ret,JZ)] (hfind [(6,.loop ⟨[(0,.str),(5,.agg [.str,.str,.str]),(6,ii)],[]⟩ [(.ret,⟨[(2,.str)],[]⟩),(.exit 0,JZ)])])
instance:Ok P14:=kA
def P15:=spA d [P1,P2,P3,P6,P5,P8,P10,P14] 40 3 f40 JZ [(.ret,⟨Ko,[.row 145]⟩)] (hfind [(2,.cut [(.ret,⟨[(2,.row 0),(3,ii),(4,ii)],[.row 145]⟩)]),(19,.loop ⟨Kc,[.row 145]⟩ [JN,(.exit 0,⟨[(0,.str),(5,.row 0)],[.row 145]⟩)]),(26,.cut [(.normal,⟨Kc,[.row 145]⟩),JN]),(36,.cut [(.normal,⟨[(0,.str),(5,.row 0),(6,ii),(7,.pc 1 0),(8,ii),(9,.int .u8),(29,.bool)],[.row 145,c44]⟩)]),(37,.cut [(.exit 1,⟨Kc,[.row 145]⟩),JE]),(49,.cut [JE]),(53,.cut [JE]),(59,.cut [JE])])
instance:Ok P15:=kA
def P16:=spA d [] 42 1 f42 J0 [(.ret,G0)] (hfind [])
instance:Ok P16:=kA
def P17:=spA d [P16] 80 1 f80 ⟨Ks,[c2]⟩ [(.ret,GC)] (hfind [(5,.cut [(.normal,⟨[(4,.bool)],[c2]⟩)])])
instance:Ok P17:=kA
def P18:=spA d [P17] 43 1 f43 ⟨Ks,[c2]⟩ [(.ret,GC)] (hfind [])
instance:Ok P18:=kA
def P19:=spA d [P16] 84 0 f84 ⟨Ka,[c2]⟩ [Ja] (hfind [])
instance:Ok P19:=kA
def P20:=spA d [P16,P19] 134 1 f134 ⟨Ka,[c2]⟩ [Ja,(.ret,G0)] (hfind [])
instance:Ok P20:=kA
def P21:=spA d [P20] 81 1 f81 J0 [Ja,(.ret,⟨H6,[c2]⟩)] (hfind [])
instance:Ok P21:=kA
def P22:=spA d [P18,P19] 45 0 f45 ⟨Ks,[c2]⟩ [Ja,(.ret,⟨[],[c2]⟩)] (hfind [])
instance:Ok P22:=kA
def P23:=spA d [P16,P18,P22,P21] 85 1 f85 J0 [Kk,Ja] (hfind [(14,.cut [Jf,Ja]),(20,.cut [Jf])])
instance:Ok P23:=kA
def P24:=spA d [P21,P22,P23] 83 1 f83 J0 [Ja,Jk] (hfind [])
instance:Ok P24:=kA
def P25:=spA d [P24,P18] 82 1 f82 ⟨[(0,.pc 0 0),(1,.clo 83 [.tup [.pc 0 0]])],[c2]⟩ [Ja,Kl] (hfind [(6,.loop ⟨[(0,.pc 0 0),(1,.clo 83 [.tup [.pc 0 0]]),(5,.row 1)],[c2,.row 94]⟩ [Ja,K8])])
instance:Ok P25:=kA
def P26:=spA d [] 171 1 f171 ⟨[(0,.val 94),(1,.pc 0 0)],[c11]⟩ [(.ret,⟨[(0,.val 94)],[c11]⟩)] (hfind [])
instance:Ok P26:=kA
def P27:=spA d [P22] 172 1 f172 ⟨JP,[c2]⟩ [Ja,Kk] (hfind [])
instance:Ok P27:=kA
def P28:=spA d [P20] 177 1 f177 ⟨Ka,[c2]⟩ [Ja,(.ret,⟨[(0,ii)],[c2]⟩)] (hfind [])
instance:Ok P28:=kA
def P29:=spA d [P21,P22,P28] 173 1 f173 ⟨Ka,[c2]⟩ [Ja,(.ret,⟨H6,[c2]⟩)] (hfind [])
instance:Ok P29:=kA
def P30:=spA d [P18,P28] 178 1 f178 ⟨JP,[c2]⟩ [Ja,Kk] (hfind [(6,.cut [Ja,(.normal,HL)]),(10,.cut [Ja,(.normal,HL)])])
instance:Ok P30:=kA
def P31:=spA d [P16,P28,P18,P21,P30] 136 1 f136 J0 [Ja,Kk] (hfind [(8,.cut [Ja,(.ret,⟨[(2,.pc 1 0)],[c2,c1]⟩),Jq]),(20,.cut [Ja,(.normal,Ju)])])
instance:Ok P31:=kA
def P32:=spA d [P18,P19] 137 1 f137 J0 [(.ret,⟨[(0,.str)],[c2]⟩),Ja] (hfind [(6,.loop ⟨[(0,.pc 0 0),(5,.agg [.str,.str,.str]),(6,ii)],[c2]⟩ [(.ret,⟨[(2,.str)],[c2]⟩),(.exit 0,J0)])])
instance:Ok P32:=kA
def P33:=spA d [P31,P32] 89 1 f89 J0 [Ja,Jk] (hfind [(7,.draw (od [1,3,5,7,9,10,12,15,16]) [])])
instance:Ok P33:=kA
def P34:=spA d [P31,P18] 82 1 f82 ⟨[(0,.pc 0 0),(1,.clo 136 [.tup [.pc 0 0]])],[c2]⟩ [Ja,Kl] (hfind [(6,.loop ⟨[(0,.pc 0 0),(1,.clo 136 [.tup [.pc 0 0]]),(5,.row 1)],[c2,.row 94]⟩ [Ja,K8])])
instance:Ok P34:=kA
def P35:=spA d [P22,P18,P34] 175 1 f175 J0 [Ja,Kl] (hfind [])
instance:Ok P35:=kA
def I36:Sig:=J0
def O36:List (XK×Sig):=[Ja,Kk]
def H36:Nat->Uv Hint:=hfind [(8,.cut [Ja,(.ret,Ju),Jf]),(16,.cut [Ja,(.ret,Ju),Jf]),(24,.cut [Ja,(.ret,Ju),Jf]),(30,.cut [Jf]),(51,.cut [Ja,KZ,Jf]),(59,.cut [Ja,KZ,Jf]),(69,.cut [Ja,KZ,Jf]),(70,.loop KW []),(83,.cut [(.normal,⟨[(0,.pc 0 0),(2,.pc 1 0),(3,.pc 2 0),(4,.str),(5,ii),(69,.pc 3 0),(87,.bool)],[c2,c1,c1,.cell []]⟩)]),(84,.cut [(.pan (.ifc 138 (.agg [ii,ii])),⟨[],[c2,c1,c1,.cell []]⟩),(.ret,⟨[(2,.pc 1 0)],[c2,c9,c1,.cell [],.row 94]⟩),(.normal,KW)]),(88,.draw (od [1,3,5,7,9,10,12,15,16]) [])]
def F36(x:I36.ty CC):Uv (zg CC O36):=zoD ⟨d⟩ [P16,P18,P28,P21,P31,P17,P35,P22,P30] lpO prog f192 1 I36 O36 H36 x
def P36:Spec CC:=⟨192,1,I36,O36,F36⟩
theorem K36:Spec.OK prog P36:=zwQ Oks.o ZG ZF H36 jO jO jO λx=>rfl
instance:Ok P36:=⟨K36⟩
def P37:=spA d [P17,P35,P18,P31,P22,P36] 176 1 f176 ⟨JP,[c2]⟩ [Ja,Jk] (hfind [(6,.cut [Ja,(.ret,Gc),(.normal,Hz)]),(16,.cut [Ja,(.ret,Gc),(.normal,Hz)]),(24,.draw (od [1,3,5,6,8,10,13,14]) [])])
instance:Ok P37:=kA
def I38:Sig:=⟨KH,[c2]⟩
def O38:List (XK×Sig):=[Ja,Jk]
def H38:Nat->Uv Hint:=hfind [(7,.draw (od [1,3,5,6,8,10,13,14]) [])]
def I39:Sig:=J0
def O39:List (XK×Sig):=[Ja,Kk]
def H39:Nat->Uv Hint:=hfind [(10,.cut [Ja,(.ret,Ju),Jq]),(20,.cut [Ja,(.ret,Ju),Jq]),(22,.cut [Ja,(.normal,Ju)]),(26,.cut [Ja,(.ret,Ju),Jq]),(28,.cut [Ja,(.normal,Ju)]),(32,.cut [Ja,(.ret,Ju),Jq]),(38,.cut [Ja,(.normal,⟨[(2,.pc 1 0),(6,.pc 2 0)],Ke⟩)]),(39,.draw (od [1,3,5,6,8,10,13,14]) []),(46,.cut [Ja,(.ret,Ju),Jq]),(52,.cut [Ja,(.ret,Ju),Jq]),(58,.cut [Ja,(.normal,⟨[(0,.pc 0 0),(2,.pc 1 0),(7,.pc 2 0)],Ke⟩)]),(66,.cut [Ja,(.ret,Ju),Jq]),(72,.cut [Ja,(.ret,Ju),Jq]),(82,.cut [Ja,(.normal,Ju)])]
def I40:Sig:=J0
def O40:List (XK×Sig):=[Ja,Jk]
def H40:Nat->Uv Hint:=hfind [(6,.cut [(.normal,⟨[(0,.pc 0 0),(2,.pc 1 0),(3,.pc 2 0),(16,.bool)],[c2,c1,c1]⟩)]),(16,.loop HD [Ja,(.exit 0,HD)]),(24,.draw (od [1,3,5,6,8,10,13,14]) [])]
def zhK(h:I40.ty CC->Uv (zg CC O40)):Spec CC:=⟨86,1,I40,O40,h⟩
def zk4(h:I40.ty CC->Uv (zg CC O40))(x:I38.ty CC):Uv (zg CC O38):=we ⟨d⟩ [P33,zhK h] lpO prog f174 1 I38 O38 H38 x
def zx9(h:I40.ty CC->Uv (zg CC O40)):Spec CC:=⟨174,1,I38,O38,zk4 h⟩
theorem zya{h:I40.ty CC->Uv (zg CC O40)}(a:Spec.OK prog (zhK h)):Spec.OK prog (zx9 h):=yI (zy (okP P33) (zy a yJ)) ZG ZF H38 jO jO jO λx=>rfl
def zk5(h:I40.ty CC->Uv (zg CC O40))(x:I39.ty CC):Uv (zg CC O39):=we ⟨d⟩ [P16,P18,P21,P26,P27,P29,zx9 h,zhK h,P17,P31,P35,P37] lpO prog f135 1 I39 O39 H39 x
def zyb(h:I40.ty CC->Uv (zg CC O40)):Spec CC:=⟨135,1,I39,O39,zk5 h⟩
theorem zyc{h:I40.ty CC->Uv (zg CC O40)}(a:Spec.OK prog (zhK h)):Spec.OK prog (zyb h):=yI (zy (okP P16) (zy (okP P18) (zy (okP P21) (zy (okP P26) (zy (okP P27) (zy (okP P29) (zy (zya a) (zy a (zy (okP P17) (zy (okP P31) (zy (okP P35) (zy (okP P37) yJ)))))))))))) ZG ZF H39 jO jO jO λx=>rfl
def zoK(h:I40.ty CC->Uv (zg CC O40))(x:I40.ty CC):Uv (zg CC O40):=we ⟨d⟩ [P16,P17,P19,P22,P18,zyb h] lpO prog f86 1 I40 O40 H40 x
def zAJ(h:I40.ty CC->Uv (zg CC O40)):Spec CC:=⟨86,1,I40,O40,zoK h⟩
theorem zAK{h:I40.ty CC->Uv (zg CC O40)}(a:Spec.OK prog (zhK h)):Spec.OK prog (zAJ h):=yI (zy (okP P16) (zy (okP P17) (zy (okP P19) (zy (okP P22) (zy (okP P18) (zy (zyc a) yJ)))))) ZG ZF H40 jO jO jO λx=>rfl
def zfE:Nat->I40.ty CC->Uv (zg CC O40)
 |0=>λ_=>q
 |k+1=>zoK (zfE k)
theorem zoL:∀k,Spec.OK prog (zhK (zfE k))
 |0=>⟨f86,jO,jO,jO,λx r h=>by cases h⟩
 |k+1=>zAK (zoL k)
def F38(x:I38.ty CC):Uv (zg CC O38):=zk4 (zfE 100000) x
def P38:Spec CC:=⟨174,1,I38,O38,F38⟩
theorem K38:Spec.OK prog P38:=zya (zoL 100000)
instance:Ok P38:=⟨K38⟩
def F39(x:I39.ty CC):Uv (zg CC O39):=zk5 (zfE 100000) x
def P39:Spec CC:=⟨135,1,I39,O39,F39⟩
theorem K39:Spec.OK prog P39:=zyc (zoL 100000)
instance:Ok P39:=⟨K39⟩
def F40(x:I40.ty CC):Uv (zg CC O40):=zfE 100000 x
def P40:Spec CC:=⟨86,1,I40,O40,F40⟩
theorem K40:Spec.OK prog P40:=zoL 100000
instance:Ok P40:=⟨K40⟩
def P41:=spA d [P21,P22,P17,P25,P18,P19,P23,P16,P40] 44 1 f44 ⟨Ka,[c2]⟩ [Ja,Jk] (hfind [(11,.cut [Ja,KC]),(21,.cut [Ja,(.normal,⟨[(0,.pc 0 0),(4,.pc 1 0),(5,.pc 2 0),(6,.pc 3 0)],[c2,c1,c9,c6,.row 94]⟩)]),(31,.draw (od [1,3,5,7,8,10,12,15,16]) [])])
instance:Ok P41:=kA
def P42:=spA d [P16,P18,P21,P19] 87 1 f87 J0 [Jk,Ja] (hfind [(9,.cut [(.normal,⟨[(0,.pc 0 0),(2,.pc 1 0),(3,.pc 2 0),(13,.bool)],[c2,c1,c1]⟩)]),(12,.cut [KX,Ja]),(17,.cut Hg),(21,.cut Hg),(24,.cut [Ja,KX])])
instance:Ok P42:=kA
def P43:=spA d [P21,P18,P22] 88 1 f88 J0 [Ja,Jk] (hfind [(9,.cut [Ja,KX])])
instance:Ok P43:=kA
def P44:=spA d [P43,P18] 82 1 f82 ⟨[(0,.pc 0 0),(1,.clo 88 [.tup [.pc 0 0]])],[c2]⟩ [Ja,Kl] (hfind [(6,.loop ⟨[(0,.pc 0 0),(1,.clo 88 [.tup [.pc 0 0]]),(5,.row 1)],[c2,.row 94]⟩ [Ja,K8])])
instance:Ok P44:=kA
def P45:=spA d [P33,P18] 82 1 f82 ⟨[(0,.pc 0 0),(1,.clo 89 [.tup [.pc 0 0]])],[c2]⟩ [Ja,Kl] (hfind [(6,.loop ⟨[(0,.pc 0 0),(1,.clo 89 [.tup [.pc 0 0]]),(5,.row 1)],[c2,.row 94]⟩ [Ja,K8])])
instance:Ok P45:=kA
def P46:=spA d [P21,P42,P18,P44,P22,P45] 46 1 f46 ⟨Ka,[c2]⟩ [Ja,Jk] (hfind [(9,.cut [Ja,KC]),(11,.draw (od [1,3,5,7,9,10,12,15,16]) []),(17,.cut [Ja,KC]),(18,.draw (od [1,3,5,7,9,10,12,15,16]) [])])
instance:Ok P46:=kA
def I47:Sig:=Kf
def O47:List (XK×Sig):=Jx
def H47:Nat->Uv Hint:=hfind [(8,.loop ⟨[(3,ii),(7,.sl 94),(8,ii),(9,ii)],[]⟩ GI)]
def zs8(h:I47.ty CC->Uv (zg CC O47)):Spec CC:=⟨47,1,I47,O47,h⟩
def zoM(h:I47.ty CC->Uv (zg CC O47))(x:I47.ty CC):Uv (zg CC O47):=we ⟨d⟩ [zs8 h] lpO prog f47 1 I47 O47 H47 x
def zAL(h:I47.ty CC->Uv (zg CC O47)):Spec CC:=⟨47,1,I47,O47,zoM h⟩
theorem zAM{h:I47.ty CC->Uv (zg CC O47)}(a:Spec.OK prog (zs8 h)):Spec.OK prog (zAL h):=yI (zy a yJ) ZG ZF H47 jO jO jO λx=>rfl
def zk6:Nat->I47.ty CC->Uv (zg CC O47)
 |0=>λ_=>q
 |k+1=>zoM (zk6 k)
theorem zyd:∀k,Spec.OK prog (zs8 (zk6 k))
 |0=>⟨f47,jO,jO,jO,λx r h=>by cases h⟩
 |k+1=>zAM (zyd k)
def F47(x:I47.ty CC):Uv (zg CC O47):=zk6 100000 x
def P47:Spec CC:=⟨47,1,I47,O47,F47⟩
theorem K47:Spec.OK prog P47:=zyd 100000
instance:Ok P47:=⟨K47⟩
def I48:Sig:=⟨[(0,.pc 0 0),(1,.pc 1 0),(2,.pc 2 0),(3,.ifc 138 (.agg [ii,ii]))],Gq⟩
def O48:List (XK×Sig):=[(.ret,⟨[],[c1,c11,c11,.row 94]⟩)]
def H48:Nat->Uv Hint:=hfind [(5,.draw (od [1,3,5,7,9,10,12,14]) [])]
def F48(x:I48.ty CC):Uv (zg CC O48):=zb9 ⟨d⟩ [] lpO prog f41 0 I48 O48 H48 x
def P48:Spec CC:=⟨41,0,I48,O48,F48⟩
theorem K48:Spec.OKD prog P48:=Vq yJ ZG ZF H48 jO jO jO λx=>rfl
def I49:Sig:=⟨KQ,Gq⟩
def O49:List (XK×Sig):=[(.ret,⟨[],Gq⟩)]
def H49:Nat->Uv Hint:=hfind []
def F49(x:I49.ty CC):Uv (zg CC O49):=zb9 ⟨d⟩ [] lpO prog f41 0 I49 O49 H49 x
def P49:Spec CC:=⟨41,0,I49,O49,F49⟩
theorem K49:Spec.OKD prog P49:=Vq yJ ZG ZF H49 jO jO jO λx=>rfl
def I50:Sig:=JZ
def O50:List (XK×Sig):=[(.ret,⟨[(0,.val 94),(1,ii),(2,ii)],[]⟩)]
def H50:Nat->Uv Hint:=hfind [(9,.draw (od [1,3,5,6,8,10]) []),(13,.loop ⟨[(2,.pc 0 0),(3,.pc 1 0),(4,.pc 2 0),(5,.sl 145),(19,.clo 41 [.pc 0 0,.pc 1 0,.pc 2 0])],[c1,c11,c11]⟩ []),(18,.loop ⟨[(2,.pc 0 0),(3,.pc 1 0),(4,.pc 2 0),(6,.pc 3 0)],[c9,c11,c11,c2,.row 94]⟩ [(.pan (.ifc 138 (.agg [ii,ii])),Hh),(.exit 0,Hh)]),(25,.cut Jp),(33,.draw (od [1,3,5,7,11,13,8,14,17,21,9366,22,18]) Jp),(38,.draw (od [1,3,5,7,11,13,8,14,17,21,9366,22,18]) Jp)]
def F50(x:I50.ty CC):Uv (zg CC O50):=zhC ⟨d⟩ [P15,P16,P18,P41,P22,P46,P47] (P49) (P48) lpO prog f20 3 I50 O50 H50 x
def P50:Spec CC:=⟨20,3,I50,O50,F50⟩
theorem K50:Spec.OK prog P50:=zhD Oks.o K49 K48 ZG ZF H50 jO jO jO λx=>rfl
instance:Ok P50:=⟨K50⟩
def P51:=spA d [] 115 2 f115 Kf [(.ret,⟨[(0,.row 0),(1,.row 1)],[.row 94,.row 94]⟩)] (hfind [(6,.loop Kd [(.exit 0,⟨[(2,.row 0),(3,.row 1)],[.row 94,.row 94]⟩)]),(22,.cut [(.normal,Kd)]),(26,.cut [(.normal,Kd)])])
instance:Ok P51:=kA
def P52:=spA d [] 146 1 f146 ⟨[(0,.val 119),(1,.pc 0 0)],[c23]⟩ K0 (hfind [])
instance:Ok P52:=kA
def P53:=spA d [P52] 145 1 f145 ⟨[(0,.sl 119),(1,.clo 146 [.pc 0 0])],[c23]⟩ Ha (hfind [(6,.loop ⟨[(0,.sl 119),(1,.clo 146 [.pc 0 0]),(7,ii),(8,ii)],[c23]⟩ Kb)])
instance:Ok P53:=kA
def P54:=spA d [P53] 100 1 f100 ⟨[(0,.sl 119),(1,.str)],[]⟩ Jx (hfind [])
instance:Ok P54:=kA
def P55:=spA d [] 116 0 f116 ⟨[(0,.bool),(1,.val 94),(2,ii)],[]⟩ [J9,(.ret,⟨[],[]⟩)] (hfind [])
instance:Ok P55:=kA
def P56:=spA d [] 162 1 f162 HY K0 (hfind [])
instance:Ok P56:=kA
def P57:=spA d [P56] 163 1 f163 H9 Ha (hfind [(6,.loop ⟨[(0,.sl 94),(1,.clo 162 [.pc 0 0]),(7,ii),(8,ii)],[c23]⟩ Kb)])
instance:Ok P57:=kA
def P58:=spA d [P57] 161 1 f161 H9 K0 (hfind [])
instance:Ok P58:=kA
def P59:=spA d [P58] 117 1 f117 ⟨[(0,.sl 94),(1,.str)],[]⟩ Jn (hfind [])
instance:Ok P59:=kA
def P60:=spA d [] 164 1 f164 HY K0 (hfind [(3,.cut [(.normal,⟨[(3,.bool)],[c23]⟩)])])
instance:Ok P60:=kA
def P61:=spA d [P60] 163 1 f163 ⟨[(0,.sl 94),(1,.clo 164 [.pc 0 0])],[c23]⟩ Ha (hfind [(6,.loop ⟨[(0,.sl 94),(1,.clo 164 [.pc 0 0]),(7,ii),(8,ii)],[c23]⟩ Kb)])
instance:Ok P61:=kA
def P62:=spA d [P61] 118 1 f118 ⟨[(0,.val 119),(1,.str),(2,.sl 94)],[]⟩ Jx (hfind [])
instance:Ok P62:=kA
def P63:=spA d [] 165 1 f165 ⟨[(0,.sl 9),(1,.str)],[]⟩ Jx (hfind [(6,.loop ⟨[(0,.sl 9),(1,.str),(7,ii),(8,ii)],[]⟩ KO)])
instance:Ok P63:=kA
def P64:=spA d [P63,P62,P55,P54] 119 0 f119 ⟨[(0,.sl 119),(1,.pc 0 0),(2,.val 94),(3,.sl 94),(4,.sl 94)],KY⟩ [Jl,(.ret,⟨[],KY⟩)] (hfind [(10,.cut [(.normal,⟨[(0,.sl 119),(1,.pc 0 0),(3,.sl 94),(4,.sl 94),(7,.pc 3 0),(20,ii),(21,.bool)],[c16,.row 245,.row 304,c6]⟩)]),(13,.cut [Jl,(.normal,⟨[],KY⟩)]),(15,.draw (od [1,3,5,7,9,11,13,15,17,19,20,23,25,26]) []),(16,.draw (od [1,3,5,7,9,11,12]) []),(19,.cut [Jl,(.normal,⟨[],KY⟩)]),(23,.draw (od [1,3,5,7,9,11,13,15,17,19,21,23,25,27,29,31,33,34]) [Jl,(.normal,⟨[(3,.sl 94),(4,.sl 94),(7,.pc 3 0)],[c16,.row 245,.row 304,c6]⟩)])])
instance:Ok P64:=kA
def P65:=spA d [] 166 1 f166 H8 [(.ret,⟨[(0,.row 0)],[.row 304]⟩)] (hfind [(8,.cut H7),(14,.cut H7)])
instance:Ok P65:=kA
def P66:=spA d [P62,P55,P65] 120 0 f120 ⟨[(0,.pc 0 0),(1,.val 94),(2,.sl 94)],KY⟩ [Jl,(.ret,⟨[],[.cell [.str,ii,ii,.row 1,.row 3],.row 245,.gone,.row 304]⟩)] (hfind [(8,.loop JC [Jl,(.exit 0,⟨[(0,.pc 0 0),(4,.pc 3 0),(6,.pc 4 0)],GG⟩)]),(16,.cut [(.normal,JC),Jl]),(26,.draw (od [1,3,5,7,9,11,12,15]) []),(28,.draw (od [1,3,5,7,9,11,13,15,17,19,21,23,25,27,29,31,33,35,37,39,41,43,45,47,49,51,52]) [Jl,(.normal,⟨[(0,.pc 0 0),(2,.sl 94),(4,.pc 3 0),(6,.pc 4 0),(7,ii),(9,ii),(11,.sl 94),(12,ii),(13,ii)],GG⟩)]),(29,.cut [(.normal,JC)]),(31,.draw (od [1,3,5,7,9,11,13,15,17,19,21,23,25,27,29,31,33,35,37,39,41,42,44,47,49,50]) [])])
instance:Ok P66:=kA
def P67:=spA j [P51,P54,P55,P59,P62,P64,P66] 68 1 f68 ⟨[(0,.sl 119),(1,.val 94)],[]⟩ [J9,(.ret,⟨[(0,.agg [.str,ii,ii,.row 0,.row 1])],[.row 245,.row 304]⟩)] (hfind [(7,.draw (od [1,3,5,11,6,9,12]) []),(14,.loop Kg [J9,(.exit 0,⟨[(0,.sl 119),(3,.pc 0 0),(4,.pc 1 0),(5,.sl 94),(6,.row 2),(7,.pc 3 0)],[c6,c10,.row 94,c52,.row 245]⟩)]),(22,.cut [J9,(.normal,Kg)]),(26,.draw (od [1,3,5,7,9,15,10,13,16]) []),(32,.cut [J9,(.normal,JS)]),(34,.draw (od [1,3,5,7,9,11,13,14,17]) []),(35,.draw (od [1,3,5,7,9,11,13,15,17,19,21,22]) [J9,(.normal,JS)]),(45,.loop ⟨[(4,.pc 0 0),(5,.sl 94),(7,.pc 1 0),(91,.sl 94),(92,ii),(93,ii)],[c10,c32,.row 245,.row 304]⟩ [J9,(.exit 2,⟨[(4,.pc 0 0),(7,.pc 1 0)],[c10,c32,.row 245,.row 304]⟩)])])
instance:Ok P67:=kA
def I68:Sig:=⟨[(0,.pc 0 0),(1,.pc 1 0),(2,.pc 2 0),(3,.ifc 194 (.agg [ii,ii]))],Gj⟩
def O68:List (XK×Sig):=[(.ret,⟨[],[c30,c11,c11,.row 119]⟩)]
def H68:Nat->Uv Hint:=hfind [(5,.draw (od [1,3,5,7,8,10,12]) [])]
def F68(x:I68.ty CC):Uv (zg CC O68):=zb9 ⟨d⟩ [] lpO prog f67 0 I68 O68 H68 x
def P68:Spec CC:=⟨67,0,I68,O68,F68⟩
theorem K68:Spec.OKD prog P68:=Vq yJ ZG ZF H68 jO jO jO λx=>rfl
def I69:Sig:=⟨KQ,Gj⟩
def O69:List (XK×Sig):=[(.ret,⟨[],Gj⟩)]
def H69:Nat->Uv Hint:=hfind []
def F69(x:I69.ty CC):Uv (zg CC O69):=zb9 ⟨d⟩ [] lpO prog f67 0 I69 O69 H69 x
def P69:Spec CC:=⟨67,0,I69,O69,F69⟩
theorem K69:Spec.OKD prog P69:=Vq yJ ZG ZF H69 jO jO jO λx=>rfl
def I70:Sig:=Kf
def O70:List (XK×Sig):=[(.ret,⟨Ko,[.row 119]⟩)]
def H70:Nat->Uv Hint:=hfind [(3,.loop ⟨[(1,.pc 0 0),(2,.pc 1 0),(3,.pc 2 0),(4,.pc 3 0),(7,.clo 67 [.pc 1 0,.pc 2 0,.pc 3 0])],[c6,c30,c11,c11]⟩ []),(8,.loop JM [(.pan (.ifc 194 (.agg [ii,ii])),JJ),(.exit 0,JJ)]),(21,.cut HW),(22,.draw (od [3,5,8198,8200,8,0,10,12,6,8,10,12]) HW)]
def F70(x:I70.ty CC):Uv (zg CC O70):=zhC ⟨d⟩ [P67] (P69) (P68) lpO prog f36 3 I70 O70 H70 x
def P70:Spec CC:=⟨36,3,I70,O70,F70⟩
theorem K70:Spec.OK prog P70:=zhD Oks.o K69 K68 ZG ZF H70 jO jO jO λx=>rfl
instance:Ok P70:=⟨K70⟩
def P71:=spA d [P63,P54] 121 2 f121 Hj [(.ret,⟨[(0,.val 85),(1,ii)],[]⟩)] (hfind [(7,.cut [(.ret,⟨[(4,.pc 0 0),(5,ii)],[c8]⟩),(.normal,⟨Ga,[c8,c8]⟩)])])
instance:Ok P71:=kA
def P72:=spA d [] 123 1 f123 ⟨Gb,[c8]⟩ [(.ret,GB)] (hfind [])
instance:Ok P72:=kA
def P73:=spA d [P72] 30 1 f30 Hy [(.ret,Gt)] (hfind [(6,.loop ⟨[(0,.row 0),(1,.clo 123 [.pc 1 0]),(7,ii),(8,ii)],[.row 85,c8]⟩ Ht)])
instance:Ok P73:=kA
def P74:=spA d [P73] 122 1 f122 Hy [(.ret,Gn)] (hfind [])
instance:Ok P74:=kA
def P75:=spA d [] 124 1 f124 ⟨[(0,.val 85),(1,.sl 119)],[]⟩ Jn (hfind [(3,.cut Jb)])
instance:Ok P75:=kA
def P76:=spA d [] 125 1 f125 ⟨Gb,[c8]⟩ [(.ret,GB)] (hfind [(3,.cut [(.normal,⟨[(3,.bool)],[c8]⟩)])])
instance:Ok P76:=kA
def P77:=spA d [P76] 30 1 f30 Hx [(.ret,Gt)] (hfind [(6,.loop ⟨[(0,.row 0),(1,.clo 125 [.pc 1 0]),(7,ii),(8,ii)],[.row 85,c8]⟩ Ht)])
instance:Ok P77:=kA
def P78:=spA d [P77] 122 1 f122 Hx [(.ret,Gn)] (hfind [])
instance:Ok P78:=kA
def P79:=spA d [P71,P74,P75,P78] 69 3 f69 Hj [(.ret,⟨[(0,.val 122),(1,ii),(2,ii)],[]⟩)] (hfind [(11,.draw (od [1,3,5,6,9,11]) []),(18,.loop ⟨[(1,.sl 119),(2,.pc 0 0),(4,.pc 1 0),(7,.pc 2 0),(8,ii),(29,.sl 94),(30,ii),(31,ii)],[c6,c17,c36,.row 85]⟩ [J5,(.exit 0,⟨[(1,.sl 119),(2,.pc 0 0),(4,.pc 1 0),(7,.pc 2 0),(8,ii)],[c6,c17,c36,.row 85]⟩)]),(37,.cut [J5,(.normal,Kr)]),(39,.draw (od [1,3,5,6,9,11]) []),(43,.cut [J5,(.normal,Kr)]),(45,.draw (od [1,3,5,7,9,11,13,14,17,19]) []),(48,.cut [(.normal,⟨[(1,.sl 119),(2,.pc 0 0),(4,.pc 1 0),(7,.pc 2 0),(8,ii),(10,.pc 3 0),(11,.pc 4 0),(29,.sl 94),(30,ii),(31,ii),(65,.bool)],[c6,c17,c47,c6,c8,.row 85]⟩)]),(51,.draw (od [1,3,5,7,9,11,12,15,17]) []),(65,.draw (od [1,3,5,7,9,11,13,15,16,19,21]) [])])
instance:Ok P79:=kA
def P80:=spA d [P79] 37 3 f37 Hj [(.ret,⟨Ko,[.row 122]⟩)] (hfind [(8,.loop Hb [K7,(.exit 0,⟨[(7,.row 0)],[.row 122]⟩)]),(16,.cut [(.normal,Hb),K7])])
instance:Ok P80:=kA
def P81:=spA d [] 138 1 f138 K9 Jn (hfind [(3,.cut K6)])
instance:Ok P81:=kA
def P82:=spA d [] 139 1 f139 K9 Jn (hfind [(3,.cut K6)])
instance:Ok P82:=kA
def P83:=spA d [] 140 1 f140 JZ Jn (hfind [(9,.cut Jb),(13,.cut Jb),(17,.cut Jb),(21,.cut Jb),(25,.cut Jb),(29,.cut Jb),(33,.cut Jb),(37,.cut Jb),(41,.cut Jb),(45,.cut Jb),(49,.cut Jb),(53,.cut Jb),(57,.cut Jb),(61,.cut Jb),(65,.cut Jb),(69,.cut Jb),(73,.cut Jb),(77,.cut Jb),(81,.cut Jb)])
instance:Ok P83:=kA
def P84:=spA d [] 141 1 f141 Gx Jx (hfind [(7,.cut [(.normal,⟨[(0,.str),(1,ii),(5,.str)],[]⟩)]),(12,.cut [(.normal,⟨[(0,.str),(1,ii),(25,.bool)],[]⟩)]),(25,.cut Js),(29,.cut Js),(33,.cut Js),(37,.cut Js),(41,.cut Js),(45,.cut Js),(49,.cut Js),(53,.cut Js),(57,.cut Js),(61,.cut Js),(65,.cut Js),(69,.cut Js),(73,.cut Js)])
instance:Ok P84:=kA
def P85:=spA d [P81,P82,P83,P84] 90 2 f90 Gx [(.ret,⟨[(0,.val 158),(1,ii)],[]⟩)] (hfind [(13,.cut [(.ret,Gg),(.normal,⟨[(0,.str),(1,ii),(4,.pc 0 0),(6,.pc 1 0),(7,ii),(9,.bool)],[c21,c21]⟩)]),(16,.loop Hk [(.exit 0,Hk)]),(30,.cut [(.normal,⟨[(0,.str),(1,ii),(4,.pc 0 0),(6,.pc 1 0),(7,ii),(47,.bool)],[c21,c21]⟩)]),(52,.cut [(.normal,⟨Ga,[c21,c21]⟩)]),(62,.cut [(.ret,Gg),(.normal,⟨[(0,.str),(1,ii),(4,.pc 0 0),(6,.pc 1 0)],[c21,c21]⟩)]),(69,.loop J7 [(.exit 2,J7)]),(88,.cut [(.normal,J7)]),(94,.cut [(.normal,J7)]),(103,.cut [(.normal,⟨[(0,.str),(1,ii),(4,.pc 0 0),(6,.pc 1 0),(7,ii),(13,ii),(14,.bool),(16,.bool)],[c21,c21]⟩)]),(108,.cut [(.normal,⟨[(0,.str),(1,ii),(4,.pc 0 0),(6,.pc 1 0),(7,ii),(13,ii),(115,.bool)],[c21,c21]⟩)])])
instance:Ok P85:=kA
def P86:=spA d [P85] 48 3 f48 JZ [(.ret,⟨Ko,[.row 158]⟩)] (hfind [(16,.loop ⟨Kc,[.row 158]⟩ [JN,(.exit 0,⟨[(0,.str),(5,.row 0)],[.row 158]⟩)]),(23,.cut [(.normal,⟨Kc,[.row 158]⟩),JN]),(26,.cut [(.normal,⟨[(0,.str),(5,.row 0),(6,ii),(25,.bool)],[.row 158]⟩)]),(38,.loop ⟨Kc,[.row 158]⟩ [(.exit 2,⟨Kc,[.row 158]⟩)]),(41,.cut [(.normal,⟨[(0,.str),(5,.row 0),(6,ii),(41,.bool)],[.row 158]⟩)])])
instance:Ok P86:=kA
def P87:=spA d [] 91 1 f91 ⟨Ks,[c3,.row 158]⟩ [(.ret,Gh)] (hfind [(3,.draw (od [1,3,5,7,9,11,13,15,17,19,21,23]) []),(5,.draw (od [1,3,5,7,9,11,13,15,17,19,21,23,25,27,29,31,33,35,37,39,41,43,45,47,49,51,53,55,57]) [(.normal,⟨[(4,.bool)],[c3,.row 158]⟩)])])
instance:Ok P87:=kA
def P88:=spA d [P87] 49 1 f49 ⟨Ks,[c3,.row 158]⟩ [(.ret,Gh)] (hfind [(7,.cut [(.normal,⟨[(5,.bool)],[c3,.row 158]⟩)])])
instance:Ok P88:=kA
def P89:=spA d [] 94 0 f94 ⟨Ka,[c3,.row 158]⟩ [(.ret,Hq)] (hfind [(2,.cut [(.normal,Hq)]),(5,.draw (od [1,3,5,7,9,11,13,15,17,19,21,23,25,27,28]) [])])
instance:Ok P89:=kA
def P90:=spA d [P89] 92 1 f92 Jm [(.ret,⟨H6,[c3,.row 158]⟩)] (hfind [(3,.draw (od [1,3,5,7,9,11,13,15,17,19,20,22]) []),(6,.cut [(.normal,⟨[(0,.pc 0 0),(2,.pc 2 0),(3,.pc 3 0),(23,.bool)],[c3,.row 158,c1,c21]⟩)])])
instance:Ok P90:=kA
def P91:=spA d [P88,P89] 51 0 f51 ⟨Ks,[c3,.row 158]⟩ [(.ret,Hq)] (hfind [(4,.cut [(.normal,Hq)])])
instance:Ok P91:=kA
def P92:=spA d [P88,P91,P90] 93 1 f93 Jm JY (hfind [(3,.draw (od [1,3,5,7,9,11,13,15,17,19,21,23,25,27,29,31,33,35,37,39,41,43,45,46,48]) []),(19,.cut Gz),(26,.cut Gz)])
instance:Ok P92:=kA
def P93:=spA d [P89] 180 1 f180 Jm [(.ret,⟨[(0,ii)],[c3,.row 158]⟩)] (hfind [(3,.draw (od [1,3,5,7,9,11,13,15,17,19,20,22]) []),(6,.cut [(.normal,⟨[(0,.pc 0 0),(3,.pc 2 0),(23,.bool)],[c3,.row 158,c21]⟩)])])
instance:Ok P93:=kA
def P94:=spA d [P88,P93] 183 1 f183 ⟨[(0,.pc 0 0),(1,.val 98)],[c3,.row 158]⟩ JY (hfind [(19,.cut [(.normal,⟨[(3,.pc 2 0),(4,.pc 3 0)],[c3,.row 158,c7,c1]⟩)])])
instance:Ok P94:=kA
def P95:=spA d [P93,P88,P90,P94] 143 1 f143 Jm JY (hfind [(3,.draw (od [1,3,5,7,9,11,13,15,17,19,21,23]) []),(6,.draw (od [1,3,5,7,9,11,13,15,17,19,21,23]) [])])
instance:Ok P95:=kA
def P96:=spA d [P88,P89] 144 1 f144 Jm [(.ret,⟨[(0,.str)],[c3,.row 158]⟩)] (hfind [(8,.loop ⟨[(0,.pc 0 0),(3,.row 2),(4,ii)],[c3,.row 158,.row 9]⟩ [(.ret,⟨[(2,.str)],[c3,.row 158]⟩),(.exit 0,Jm)])])
instance:Ok P96:=kA
def P97:=spA d [P95,P96] 98 1 f98 Jm Jh (hfind [])
instance:Ok P97:=kA
def P98:=spA d [P91,P88,P95] 181 1 f181 Jm [(.ret,⟨[(0,.row 2)],[c3,.row 158,.row 98]⟩)] (hfind [(8,.cut [(.normal,⟨[(0,.pc 0 0),(18,.bool)],[c3,.row 158]⟩)]),(20,.loop ⟨[(0,.pc 0 0),(4,.pc 2 0),(5,.row 3)],[c3,.row 158,c7,.row 98]⟩ [(.exit 0,⟨[(0,.pc 0 0),(5,.row 2)],[c3,.row 158,.row 98]⟩)])])
instance:Ok P98:=kA
def P99:=spA d [P88,P93,P90,P95,P87,P98,P91,P94] 193 1 f193 Jm JY (hfind [(3,.draw (od [1,3,5,7,9,11,13,15,17,19,21,23,24,26]) []),(47,.cut Gz),(60,.draw (od [1,3,5,7,9,11,13,15,17,19,21,23]) []),(106,.draw (od [1,3,5,7,9,11,13,15,17,19,21,23,25,27,29,31,33,35,37]) [(.normal,⟨[(0,.pc 0 0),(2,.pc 2 0),(3,.pc 3 0),(14,.bool),(119,.bool)],G1⟩)]),(117,.cut [(.normal,⟨[(2,.pc 2 0),(16,.pc 3 0)],Jz⟩)])])
instance:Ok P99:=kA
def zk7:=spA d [P90,P87,P98,P88,P95,P91,P99] 182 1 f182 Jm Jh (hfind [])
instance:Ok zk7:=kA
def zk8:Sig:=⟨KH,[c3,.row 158]⟩
def zk9:List (XK×Sig):=Jh
def zye:Nat->Uv Hint:=hfind []
def zla:Sig:=Jm
def zlb:List (XK×Sig):=Jh
def zyf:Nat->Uv Hint:=hfind [(3,.draw (od [1,3,5,7,9,11,13,15,17,19,21,23]) []),(8,.draw (od [1,3,5,7,9,11,13,15,17,19,21,23]) []),(9,.cut [(.normal,⟨[(0,.pc 0 0),(2,.pc 2 0),(3,ii),(4,.str)],[c3,.row 158,c1]⟩)]),(10,.draw (od [1,3,5,7,9,11,13,15,17,19,21,23]) []),(20,.cut [(.ret,HF),Ji]),(32,.cut [(.normal,⟨[(2,.pc 2 0),(5,.pc 3 0),(6,.pc 4 0)],[c3,.row 158,c1,c54,.cell [ii,.str,ii,ii,.row 6],.row 98,.row 98]⟩)]),(50,.cut [Ji]),(61,.cut [(.normal,⟨[(0,.pc 0 0),(2,.pc 2 0),(4,.str),(5,.pc 3 0),(49,.str),(108,.bool)],G1⟩)]),(64,.cut [Ji]),(74,.cut [(.normal,⟨[(0,.pc 0 0),(2,.pc 2 0),(5,.pc 3 0),(9,.pc 4 0)],[c3,.row 158,c1,c1,c1]⟩)]),(86,.cut [Ji]),(95,.cut [Ji]),(102,.cut [Ji]),(108,.cut [Ji])]
def XG:Sig:=Jm
def XH:List (XK×Sig):=Jh
def zyg:Nat->Uv Hint:=hfind [(3,.draw (od [1,3,5,7,9,11,13,15,17,19,21,23,24,26]) []),(8,.cut [(.normal,⟨[(0,.pc 0 0),(2,.pc 2 0),(3,.pc 3 0),(28,.bool)],G1⟩)]),(9,.cut Gz),(18,.loop HC [(.exit 0,HC)])]
def zep(h:XG.ty CC->Uv (zg CC XH)):Spec CC:=⟨95,1,XG,XH,h⟩
def zgx(h:XG.ty CC->Uv (zg CC XH))(x:zk8.ty CC):Uv (zg CC zk9):=we ⟨d⟩ [P97,zep h] lpO prog f179 1 zk8 zk9 zye x
def zu7(h:XG.ty CC->Uv (zg CC XH)):Spec CC:=⟨179,1,zk8,zk9,zgx h⟩
theorem zu8{h:XG.ty CC->Uv (zg CC XH)}(a:Spec.OK prog (zep h)):Spec.OK prog (zu7 h):=yI (zy (okP P97) (zy a yJ)) ZG ZF zye jO jO jO λx=>rfl
def zgy(h:XG.ty CC->Uv (zg CC XH))(x:zla.ty CC):Uv (zg CC zlb):=we ⟨d⟩ [zu7 h,P88,zep h,P90,P91,P93,P87,P95,P98,zk7] lpO prog f142 1 zla zlb zyf x
def zu9(h:XG.ty CC->Uv (zg CC XH)):Spec CC:=⟨142,1,zla,zlb,zgy h⟩
theorem zva{h:XG.ty CC->Uv (zg CC XH)}(a:Spec.OK prog (zep h)):Spec.OK prog (zu9 h):=yI (zy (zu8 a) (zy (okP P88) (zy a (zy (okP P90) (zy (okP P91) (zy (okP P93) (zy (okP P87) (zy (okP P95) (zy (okP P98) (zy (okP zk7) yJ)))))))))) ZG ZF zyf jO jO jO λx=>rfl
def zi5(h:XG.ty CC->Uv (zg CC XH))(x:XG.ty CC):Uv (zg CC XH):=we ⟨d⟩ [P87,P89,P91,P88,zu9 h] lpO prog f95 1 XG XH zyg x
def zz8(h:XG.ty CC->Uv (zg CC XH)):Spec CC:=⟨95,1,XG,XH,zi5 h⟩
theorem zz9{h:XG.ty CC->Uv (zg CC XH)}(a:Spec.OK prog (zep h)):Spec.OK prog (zz8 h):=yI (zy (okP P87) (zy (okP P89) (zy (okP P91) (zy (okP P88) (zy (zva a) yJ))))) ZG ZF zyg jO jO jO λx=>rfl
def zci:Nat->XG.ty CC->Uv (zg CC XH)
 |0=>λ_=>q
 |k+1=>zi5 (zci k)
theorem zi6:∀k,Spec.OK prog (zep (zci k))
 |0=>⟨f95,jO,jO,jO,λx r h=>by cases h⟩
 |k+1=>zz9 (zi6 k)
def zAN(x:zk8.ty CC):Uv (zg CC zk9):=zgx (zci 100000) x
def zyh:Spec CC:=⟨179,1,zk8,zk9,zAN⟩
theorem zAO:Spec.OK prog zyh:=zu8 (zi6 100000)
instance:Ok zyh:=⟨zAO⟩
def zAP(x:zla.ty CC):Uv (zg CC zlb):=zgy (zci 100000) x
def zyi:Spec CC:=⟨142,1,zla,zlb,zAP⟩
theorem zAQ:Spec.OK prog zyi:=zva (zi6 100000)
instance:Ok zyi:=⟨zAQ⟩
def zyj(x:XG.ty CC):Uv (zg CC XH):=zci 100000 x
def zs9:Spec CC:=⟨95,1,XG,XH,zyj⟩
theorem zAR:Spec.OK prog zs9:=zi6 100000
instance:Ok zs9:=⟨zAR⟩
def zta:=spA d [P90,P91,P88,P92,P87,P89,zs9] 50 1 f50 ⟨Ka,[c3,.row 158]⟩ Jh (hfind [(14,.loop Hv [(.exit 0,KG)]),(17,.cut [(.normal,⟨[(0,.pc 0 0),(4,.pc 2 0),(5,.pc 3 0),(6,.bool),(31,.bool)],Jz⟩)]),(38,.cut [(.normal,Hv)]),(44,.draw (od [1,3,5,7,9,11,13,15,17,19,21,23,24,26]) []),(50,.cut [(.normal,⟨HV,[c3,.row 158,c1,c54,c7,.row 98]⟩)]),(56,.cut [(.normal,⟨HV,[c3,.row 158,c1,c54,c1,.row 98]⟩)])])
instance:Ok zta:=kA
def ztb:=spA d [P88,P90,P89] 96 1 f96 Jm JY (hfind [(3,.draw (od [1,3,5,7,9,11,13,15,17,19,21,23,25,27,29,31,33,35,37,39,41,43,45,46,48]) []),(30,.loop ⟨[(0,.pc 0 0),(2,.pc 2 0),(3,.pc 3 0),(6,.row 4),(7,ii)],[c3,.row 158,c1,c1,.row 9]⟩ [(.ret,HF),(.exit 0,J8)])])
instance:Ok ztb:=kA
def ztc:=spA d [P90,P88,P91] 97 1 f97 Jm Jh (hfind [(11,.cut [(.normal,⟨[(2,.pc 2 0),(3,.pc 3 0)],Jz⟩)])])
instance:Ok ztc:=kA
def ztd:=spA d [P90,ztb,P88,ztc,P91,P97] 52 1 f52 ⟨Ka,[c3,.row 158]⟩ Jh (hfind [(16,.loop Hu [(.exit 0,KG)]),(32,.cut [(.normal,Hu)]),(39,.loop ⟨[(0,.pc 0 0),(4,.pc 2 0),(5,.pc 3 0),(9,.bool)],Jz⟩ [(.exit 2,KG)])])
instance:Ok ztd:=kA
def VS:Sig:=KD
def VT:List (XK×Sig):=Jx
def zyk:Nat->Uv Hint:=hfind [(8,.loop ⟨[(1,.pc 0 0),(3,ii),(4,ii)],[c7]⟩ GI)]
def zoN(h:VS.ty CC->Uv (zg CC VT)):Spec CC:=⟨53,1,VS,VT,h⟩
def zi7(h:VS.ty CC->Uv (zg CC VT))(x:VS.ty CC):Uv (zg CC VT):=we ⟨d⟩ [zoN h] lpO prog f53 1 VS VT zyk x
def zAa(h:VS.ty CC->Uv (zg CC VT)):Spec CC:=⟨53,1,VS,VT,zi7 h⟩
theorem zAb{h:VS.ty CC->Uv (zg CC VT)}(a:Spec.OK prog (zoN h)):Spec.OK prog (zAa h):=yI (zy a yJ) ZG ZF zyk jO jO jO λx=>rfl
def zgz:Nat->VS.ty CC->Uv (zg CC VT)
 |0=>λ_=>q
 |k+1=>zi7 (zgz k)
theorem zvb:∀k,Spec.OK prog (zoN (zgz k))
 |0=>⟨f53,jO,jO,jO,λx r h=>by cases h⟩
 |k+1=>zAb (zvb k)
def zyl(x:VS.ty CC):Uv (zg CC VT):=zgz 100000 x
def zte:Spec CC:=⟨53,1,VS,VT,zyl⟩
theorem zAS:Spec.OK prog zte:=zvb 100000
instance:Ok zte:=⟨zAS⟩
def zoO:=spA d [P86,P88,zta,P91,ztd,zte] 21 3 f21 JZ [(.ret,⟨[(0,.val 98),(1,ii),(2,ii)],[]⟩)] (hfind [(18,.loop JF [(.exit 0,JF)]),(21,.draw (od [1,3,5,7,9,11,13,15,17,19,21,23,25,27,29,31,33,35,37]) [(.normal,⟨[(2,.pc 0 0),(8,.pc 1 0),(9,.pc 2 0),(48,.bool)],[c1,c43,c9,.row 158,.row 98]⟩)]),(25,.cut [(.normal,JF)]),(27,.draw (od [1,3,5,7,9,11,13,15,17,19,21,23]) []),(44,.cut [(.normal,JF)]),(54,.draw (od [1,3,5,7,9,11,13,15,17,18,21,23]) [])])
instance:Ok zoO:=kA
def zoP:=spA d [] 126 1 f126 Gp [(.ret,⟨[(0,.row 0)],[.row 98]⟩)] (hfind [(8,.loop ⟨Ki,[c7,.row 98]⟩ [(.exit 0,⟨[(5,.row 0)],[.row 98]⟩)]),(19,.cut [(.normal,⟨Ki,[c7,.row 98]⟩)])])
instance:Ok zoP:=kA
def zhL:=spA d [] 108 1 f108 ⟨[(0,.sl 202),(1,.str)],[]⟩ Jx (hfind [(6,.loop ⟨[(0,.sl 202),(1,.str),(5,ii)],[]⟩ KO)])
instance:Ok zhL:=kA
def zoQ:=spA d [] 127 1 f127 ⟨[(0,.sl 98),(1,.str)],[]⟩ Jx (hfind [(6,.loop ⟨[(0,.sl 98),(1,.str),(5,ii)],[]⟩ KO),(16,.cut [(.normal,⟨[(0,.sl 98),(1,.str),(5,ii),(27,.bool)],[]⟩)])])
instance:Ok zoQ:=kA
def zoR:=spA d [] 128 1 f128 H8 [(.ret,⟨[(0,.row 0)],[.row 258]⟩)] (hfind [(7,.cut He),(12,.cut [(.normal,⟨[(0,.str),(1,ii),(2,ii),(3,ii),(4,ii),(11,.row 0),(29,.bool)],[.row 258]⟩)]),(13,.cut He),(19,.cut [(.normal,⟨[(11,.row 0)],[.row 258]⟩)])])
instance:Ok zoR:=kA
def ztf:=spA d [zoP,zhL,zoQ,zoR] 70 3 f70 ⟨[(0,.row 0),(1,.val 98)],[.row 202]⟩ [(.ret,⟨[(0,.val 202),(1,ii),(2,ii)],[.row 202]⟩)] (hfind [(17,.draw (od [1,3,5,6,9,11]) []),(25,.draw (od [1,3,5,6,9,11]) []),(32,.loop KM [Jr,(.exit 0,⟨[(0,.row 0),(4,.pc 1 0),(7,.row 2),(8,.row 3),(9,.pc 4 0),(10,.pc 5 0)],JG⟩)]),(40,.cut [Jr,(.normal,KM)]),(47,.loop ⟨[(0,.row 0),(4,.pc 1 0),(7,.row 2),(8,.row 3),(9,.pc 4 0),(10,.pc 5 0),(12,ii),(13,.pc 6 0),(14,ii)],Km⟩ [Jr,(.exit 2,⟨[(0,.row 0),(4,.pc 1 0),(7,.row 2),(8,.row 3),(9,.pc 4 0),(10,.pc 5 0),(12,ii),(13,.pc 6 0)],Km⟩)]),(57,.draw (od [1,3,5,7,9,11,13,15]) []),(60,.draw (od [1,3,5,6,9,11]) []),(69,.cut [Jr,(.normal,⟨[(0,.row 0),(4,.pc 1 0),(7,.row 2),(8,.row 3),(9,.pc 4 0),(10,.pc 5 0),(12,ii),(13,.pc 6 0),(15,ii)],Km⟩)]),(73,.cut [(.normal,⟨[(0,.row 0),(4,.pc 1 0),(7,.row 2),(8,.row 3),(9,.pc 4 0),(10,.pc 5 0),(12,ii),(13,.pc 6 0),(15,ii),(93,.bool)],Km⟩)]),(76,.draw (od [1,3,5,6,9,11]) []),(90,.cut [JD,Jr]),(95,.cut [(.normal,⟨[(0,.row 0),(4,.pc 1 0),(7,.row 2),(8,.row 3),(9,.pc 4 0),(10,.pc 5 0),(16,ii),(107,.str),(111,.bool)],JG⟩)]),(98,.cut [Jr,JD]),(104,.cut [(.normal,⟨[(4,.pc 1 0),(7,.row 2),(8,.row 3),(9,.pc 4 0),(10,.pc 5 0)],JG⟩)]),(114,.draw (od [1,3,5,6,9,11]) []),(120,.cut [Jr,JD]),(130,.draw (od [1,3,5,6,9,11]) []),(138,.draw (od [1,3,5,6,9,11]) []),(142,.cut [(.normal,⟨[(4,.pc 1 0),(7,.row 2),(8,.row 3),(9,.pc 4 0),(10,.pc 5 0),(16,ii),(167,.bool)],JG⟩)]),(145,.draw (od [1,3,5,6,9,11]) []),(153,.loop JW [Kj,(.exit 5,⟨[(4,.pc 1 0),(10,.pc 2 0)],[.row 202,c10,.cell [.str,ii,ii,.row 3,.row 4],.row 255,.row 258]⟩)]),(168,.loop KE [Kj,(.exit 7,⟨[(4,.pc 1 0),(7,.row 2),(8,.row 3),(10,.pc 4 0),(16,ii),(17,ii),(18,.row 5)],JQ⟩)]),(176,.cut [(.normal,KE),Kj]),(189,.cut [(.normal,⟨[(4,.pc 1 0),(7,.row 2),(8,.row 3),(10,.pc 4 0),(16,ii),(17,ii),(18,.row 5),(19,ii),(21,ii),(202,.bool)],JQ⟩)]),(192,.draw (od [1,3,5,7,9,11,12,15,17]) []),(198,.draw (od [1,3,5,7,9,11,13,15,17,19,21,23,25,27,29,31,33,35,37,39,41,43,45,47,49,51,53,54,57]) []),(202,.loop ⟨[(4,.pc 1 0),(7,.row 2),(8,.row 3),(10,.pc 4 0),(16,ii),(17,ii),(22,.row 5),(23,ii)],[.row 202,c10,.row 98,.row 98,c33,.row 258,.row 255,.row 258]⟩ [(.exit 9,JW)]),(211,.draw (od [1,3,5,7,9,11,12,14,17,18]) [])])
instance:Ok ztf:=kA
def ztg:=spA d [ztf] 38 3 f38 KD [(.ret,⟨Ko,[.row 202]⟩)] (hfind [(8,.loop H5 [JN,(.exit 0,⟨[(5,.row 0)],[.row 202]⟩)]),(16,.cut [(.normal,H5),JN])])
instance:Ok ztg:=kA
def zth:=spA d [zhL] 129 2 f129 Hi [(.ret,⟨[(0,.val 206),(1,.bool)],[]⟩)] (hfind [(10,.cut JB),(14,.cut JB),(18,.cut JB),(22,.cut JB),(28,.cut [(.ret,⟨[(4,.pc 0 0),(5,.bool)],[c12]⟩),(.normal,⟨Ga,[c12,c12]⟩)])])
instance:Ok zth:=kA
def zti:=spA d [zth] 71 3 f71 Hi [(.ret,⟨[(0,.val 208),(1,ii),(2,ii)],[]⟩)] (hfind [(11,.draw (od [1,3,5,6,9,11]) []),(18,.loop KF [J5,(.exit 0,⟨[(1,.sl 202),(2,.pc 0 0),(4,.pc 1 0),(7,.pc 2 0),(8,ii)],[c7,c17,c36,.row 206]⟩)]),(26,.cut [J5,(.normal,KF)]),(33,.loop ⟨[(1,.sl 202),(2,.pc 0 0),(4,.pc 1 0),(7,.pc 2 0),(8,ii),(9,ii),(10,.pc 3 0),(11,ii)],[c7,c17,c46,c7,.row 206]⟩ [J5,(.exit 2,⟨[(1,.sl 202),(2,.pc 0 0),(4,.pc 1 0),(7,.pc 2 0),(8,ii),(9,ii),(10,.pc 3 0)],[c7,c17,c46,c7,.row 206]⟩)]),(43,.draw (od [1,3,5,7,9,11,13,15,17]) []),(46,.draw (od [1,3,5,6,9,11]) []),(57,.draw (od [1,3,5,7,9,11,12,15,17]) []),(64,.loop ⟨[(1,.sl 202),(2,.pc 0 0),(4,.pc 1 0),(7,.pc 2 0),(8,ii),(9,ii),(10,.pc 3 0),(12,.pc 4 0),(14,ii)],HK⟩ [J5,(.exit 4,⟨[(1,.sl 202),(2,.pc 0 0),(4,.pc 1 0),(7,.pc 2 0),(8,ii),(9,ii),(10,.pc 3 0),(12,.pc 4 0)],HK⟩)]),(76,.cut [(.normal,⟨[(1,.sl 202),(2,.pc 0 0),(4,.pc 1 0),(7,.pc 2 0),(8,ii),(9,ii),(10,.pc 3 0),(12,.pc 4 0),(14,ii),(107,.bool)],HK⟩)]),(79,.draw (od [1,3,5,7,9,11,12,15,17]) []),(94,.draw (od [1,3,5,7,9,11,13,14,17,19]) [])])
instance:Ok zti:=kA
def ztj:=spA d [zti] 39 3 f39 Hi [(.ret,⟨Ko,[.row 208]⟩)] (hfind [(8,.loop Hm [K7,(.exit 0,⟨[(7,.row 0)],[.row 208]⟩)]),(16,.cut [(.normal,Hm),K7])])
instance:Ok ztj:=kA
def ztk:=spA d [P50,P70,P80,zoO,ztg,ztj] 19 2 f19 JZ [(.ret,⟨[(0,.val 54),(1,.bool)],[]⟩)] (hfind [(28,.loop JH [(.exit 0,⟨[(2,.pc 0 0),(9,ii),(10,.row 1),(12,ii),(19,.row 2),(22,.pc 3 0)],[c24,.row 122,.row 208,.cell [.row 4,.sl 119,.row 1,.row 5,.sl 202,.row 2],.row 94,.row 98]⟩)]),(41,.cut [(.normal,JH)]),(44,.draw (od [1,3,5,7,9,11,13,14,16,19,20]) []),(48,.draw (od [1,3,5,7,9,11,13,15,17,19,21,23,25,27,29,31,33,35,37,39,41,43,45,46,49]) [(.normal,⟨[(2,.pc 0 0),(3,.bool)],[.cell [.row 1,.sl 119,.row 2,.row 3,.sl 202,.row 4],.row 94,.row 122,.row 98,.row 208]⟩)])])
instance:Ok ztk:=kA
def zlc:=spA d [] 99 0 f99 ⟨[(0,.pc 0 0),(1,.bool),(2,ii)],HT⟩ [Jv,(.ret,⟨[],HT⟩)] (hfind [])
instance:Ok zlc:=kA
def zoS:=spA d [zlc] 55 0 f55 ⟨[(0,.pc 0 0),(1,.val 94),(2,.bool),(3,ii)],HT⟩ [Jv,(.ret,⟨[],HT⟩)] (hfind [])
instance:Ok zoS:=kA
def zoT:=spA d [] 31 1 f31 ⟨Gb,[c23]⟩ K0 (hfind [])
instance:Ok zoT:=kA
def ztl:=spA d [zoT] 30 1 f30 ⟨[(0,.sl 85),(1,.clo 31 [.pc 0 0])],[c23]⟩ Ha (hfind [(6,.loop ⟨[(0,.sl 85),(1,.clo 31 [.pc 0 0]),(7,ii),(8,ii)],[c23]⟩ Kb)])
instance:Ok ztl:=kA
def zcj:=spA d [ztl] 15 1 f15 ⟨[(0,.val 34),(1,.str)],[]⟩ Jx (hfind [])
instance:Ok zcj:=kA
def ztm:=spA d [zoS,zcj,P54,zlc] 56 1 f56 ⟨JP,HT⟩ [Jv,(.ret,⟨[(0,.agg [.str,ii,.row 2])],[c15,.forow 34,.row 85]⟩)] (hfind [(12,.loop Kt [Jv,(.exit 0,⟨HE,[c15,.forow 34,c6,c26,c50,.row 85]⟩)]),(20,.cut [Jv,(.normal,Kt)]),(26,.draw (od [1,3,5,7,9,10,13,14]) []),(28,.cut [Jv,(.normal,⟨[(0,.pc 0 0),(3,.pc 2 0),(4,.pc 3 0),(5,ii),(6,.pc 4 0),(8,.pc 5 0),(9,.pc 6 0),(27,.sl 94),(28,ii),(29,ii)],[c15,.forow 34,c6,c26,c55,c6,c6,.row 85]⟩)]),(34,.cut [Jv,(.normal,⟨[(0,.pc 0 0),(3,.pc 2 0),(4,.pc 3 0),(5,ii),(6,.pc 4 0),(10,.pc 5 0),(27,.sl 94),(28,ii),(29,ii)],[c15,.forow 34,c6,c26,c58,c8,.row 85]⟩)]),(36,.draw (od [1,3,5,7,9,11,13,15,17,21,18,22,25,26]) []),(42,.draw (od [1,3,5,7,9,11,13,15,17,19,21,23,25,26]) [])])
instance:Ok ztm:=kA
def Wp:=spA d [] 99 0 f99 ⟨[(0,.pc 0 0),(1,.bool),(2,ii)],J2⟩ [Jc,H4] (hfind [])
instance:Ok Wp:=kA
def zoU:=spA d [zcj,Wp] 147 1 f147 ⟨Ks,J2⟩ [Jc,HH] (hfind [])
instance:Ok zoU:=kA
def zoV:=spA d [] 148 1 f148 ⟨[(0,.val 122),(1,.pc 0 0)],[c6]⟩ [(.ret,⟨[(0,.bool)],[c6]⟩)] (hfind [])
instance:Ok zoV:=kA
def ztn:=spA d [zoV] 32 1 f32 ⟨[(0,.sl 122),(1,.clo 148 [.pc 0 0])],[c6]⟩ [(.ret,⟨[(0,ii)],[c6]⟩)] (hfind [(6,.loop ⟨[(0,.sl 122),(1,.clo 148 [.pc 0 0]),(7,ii),(8,ii)],[c6]⟩ [(.ret,⟨[(4,ii)],[c6]⟩),(.exit 0,⟨[],[c6]⟩)])])
instance:Ok ztn:=kA
def zfF:=spA d [Wp,zoU] 106 0 f106 ⟨[(0,.pc 0 0),(1,.val 94),(2,.val 85)],J2⟩ [Jc,H4] (hfind [(15,.cut [Jc,HA]),(18,.cut [(.normal,⟨[(0,.pc 0 0),(4,.pc 2 0),(5,.pc 3 0),(6,.pc 4 0),(47,.bool)],Gf⟩)]),(19,.cut [Jc,HA]),(20,.cut [Jc,HA]),(21,.cut [Jc,HA])])
instance:Ok zfF:=kA
def zto:=spA d [Wp,zfF] 105 0 f105 ⟨[(0,.pc 0 0),(1,.sl 94),(2,.sl 85)],J2⟩ [Jc,H4] (hfind [(5,.loop ⟨[(0,.pc 0 0),(2,.sl 85),(15,.sl 94),(16,ii),(17,ii)],J2⟩ [Jc,(.exit 0,⟨[],J2⟩)]),(16,.draw (od [1,3,5,7,9,11,12]) [])])
instance:Ok zto:=kA
def zhM:=spA d [ztn,Wp,zto] 103 1 f103 ⟨JP,J2⟩ [Jc,HH] (hfind [(7,.draw (od [1,3,5,7,9,11,13,15,17,19,21,22]) [])])
instance:Ok zhM:=kA
def zld:=spA d [zoU,Wp,zhM] 102 1 f102 ⟨JP,J2⟩ [HH,Jc] (hfind [(10,.cut [Ky,Jc,JI]),(22,.cut [Jc,(.normal,⟨[(4,.pc 2 0),(6,.pc 3 0)],Gv⟩)]),(29,.cut [(.normal,⟨[(0,.pc 0 0),(3,.pc 2 0),(4,.pc 3 0),(5,.pc 4 0),(13,ii),(35,.bool)],Gf⟩)]),(32,.cut [Jc,Ky,JI]),(34,.draw (od [1,3,5,7,9,11,15,17,19,21,23,25,12,26,28,30,32,34]) [Jc,(.normal,⟨[(0,.pc 0 0),(4,.pc 2 0),(5,.pc 3 0),(7,.pc 4 0),(8,.pc 5 0)],[c0,.forow 34,c8,c8,c8,c8]⟩)]),(36,.cut [Jc,(.normal,⟨[(4,.pc 2 0),(5,.pc 3 0)],Gv⟩)]),(43,.cut [(.normal,⟨[(0,.pc 0 0),(3,.pc 2 0),(4,.pc 3 0),(5,.pc 4 0),(13,ii),(63,.bool)],Gf⟩)]),(46,.cut [Jc,Ky,JI]),(56,.cut [(.normal,⟨[(4,.pc 2 0),(9,.pc 3 0)],Gv⟩)]),(64,.cut [Jc,Ky,JI])])
instance:Ok zld:=kA
def zle:=spA d [zcj,Wp] 101 0 f101 ⟨[(0,.pc 0 0),(1,.str),(2,.val 85)],[c0,.orow 34]⟩ [JK,(.ret,HP)] (hfind [(11,.draw (od [1,3,5,7,9,11,13,15,17,19,21,23,25,26]) []),(14,.draw (od [1,3,5,7,9,11,13,15,17,19,21,23,24,26,29,31,32]) [])])
instance:Ok zle:=kA
def zoW:=spA d [] 104 1 f104 ⟨[(0,.val 34),(1,.pz 94 0)],[]⟩ Jn (hfind [])
instance:Ok zoW:=kA
def zlf:=spA d [zoW] 34 1 f34 ⟨[(0,.row 0),(1,.clo 104 [.pc 1 0])],HZ⟩ [(.ret,⟨[(0,ii)],HZ⟩)] (hfind [(6,.loop ⟨[(0,.row 0),(1,.clo 104 [.pc 1 0]),(7,ii),(8,ii)],HZ⟩ [(.ret,⟨[(4,ii)],HZ⟩),(.exit 0,⟨[],HZ⟩)])])
instance:Ok zlf:=kA
def zlg:=spA d [Wp,zfF] 105 0 f105 ⟨[(0,.pc 0 0),(1,.sl 94),(2,.nxp 1 34 85)],J2⟩ [Jc,H4] (hfind [(5,.loop ⟨[(0,.pc 0 0),(2,.nxp 1 34 85),(15,.sl 94),(16,ii),(17,ii)],J2⟩ [Jc,(.exit 0,⟨[],J2⟩)]),(16,.draw (od [1,3,5,7,9,11,12]) [])])
instance:Ok zlg:=kA
def VU:Sig:=⟨[(0,.pc 0 0),(1,.sl 94)],J2⟩
def VV:List (XK×Sig):=[JK,(.ret,HP)]
def zym:Nat->Uv Hint:=hfind [(5,.loop JX [JK,(.exit 0,HP)]),(23,.cut Jd),(24,.draw (od [1,3,5,7,9,11,13,15,16,18]) Jd),(27,.cut Jd),(31,.cut Jd),(36,.draw (od [1,3,5,7,9,11,13,15,17,19,21,23,25,27,29,31,33,35,37,39,40]) []),(40,.cut [(.normal,⟨[(0,.pc 0 0),(4,.pc 2 0),(6,.pc 3 0),(11,.sl 94),(12,ii),(13,ii),(23,ii),(79,.bool)],[c0,.orow 34,c8,c6]⟩)]),(43,.cut Jd),(45,.draw (od [1,3,5,7,9,11,12]) []),(47,.draw (od [1,3,5,7,9,11,12]) []),(51,.loop ⟨[(0,.pc 0 0),(4,.pc 2 0),(11,.sl 94),(12,ii),(13,ii),(98,.sl 94),(99,ii),(100,ii)],[c0,.orow 34,c8]⟩ [JK,(.exit 3,JX)]),(66,.cut Jd),(70,.cut [(.normal,JX),JK])]
def zoX(h:VU.ty CC->Uv (zg CC VV)):Spec CC:=⟨57,0,VU,VV,h⟩
def zi8(h:VU.ty CC->Uv (zg CC VV))(x:VU.ty CC):Uv (zg CC VV):=we ⟨d⟩ [zld,zle,zhM,zlf,Wp,zlg,zfF,zoX h] lpO prog f57 0 VU VV zym x
def zAc(h:VU.ty CC->Uv (zg CC VV)):Spec CC:=⟨57,0,VU,VV,zi8 h⟩
theorem zAd{h:VU.ty CC->Uv (zg CC VV)}(a:Spec.OK prog (zoX h)):Spec.OK prog (zAc h):=yI (zy (okP zld) (zy (okP zle) (zy (okP zhM) (zy (okP zlf) (zy (okP Wp) (zy (okP zlg) (zy (okP zfF) (zy a yJ)))))))) ZG ZF zym jO jO jO λx=>rfl
def zgA:Nat->VU.ty CC->Uv (zg CC VV)
 |0=>λ_=>q
 |k+1=>zi8 (zgA k)
theorem zvc:∀k,Spec.OK prog (zoX (zgA k))
 |0=>⟨f57,jO,jO,jO,λx r h=>by cases h⟩
 |k+1=>zAd (zvc k)
def zyn(x:VU.ty CC):Uv (zg CC VV):=zgA 100000 x
def ztp:Spec CC:=⟨57,0,VU,VV,zyn⟩
theorem zAT:Spec.OK prog ztp:=zvc 100000
instance:Ok ztp:=⟨zAT⟩
def zhN:=spA d [] 154 1 f154 Kf [(.ret,Kf)] (hfind [])
instance:Ok zhN:=kA
def zhO:=spA d [] 185 1 f185 Kf [(.ret,G8)] (hfind [])
instance:Ok zhO:=kA
def zck:=spA d [zhO] 156 1 f156 ⟨[(0,.val 94),(1,ii)],[]⟩ [(.ret,G8)] (hfind [])
instance:Ok zck:=kA
def zhP:=spA d [zhO] 157 1 f157 Kf [(.ret,⟨[(0,.row 0)],[.row 75]⟩)] (hfind [(8,.loop ⟨[(3,.row 0),(7,.sl 94),(8,ii),(9,ii)],[.row 75]⟩ [(.exit 0,⟨[(3,.row 0)],[.row 75]⟩)])])
instance:Ok zhP:=kA
def VW:=spA d [] 62 1 f62 ⟨[(0,.pc 0 0),(1,.val 78)],[c25,.row 78]⟩ [(.ret,⟨[(0,ii)],[c27,.gone,.row 78]⟩)] (hfind [(3,.draw (od [1,3,5,7,9,11,12,14,17,19,20]) [])])
instance:Ok VW:=kA
def zlh:=spA d [zck,zhP,zhO,VW] 153 0 f153 ⟨[(0,.pc 0 0),(1,.val 94),(2,.val 94)],[c25,.row 78]⟩ [(.ret,JV)] (hfind [(11,.cut [(.normal,⟨[(0,.pc 0 0),(5,.pc 2 0),(6,.pc 3 0),(13,ii),(17,.bool)],G3⟩)]),(14,.cut J3),(15,.draw (od [1,3,5,7,9,13,17,10,14,18,21,22,25,26]) []),(18,.cut J3),(19,.draw (od [1,3,5,7,8,11,12]) []),(22,.cut J3),(23,.draw (od [1,3,5,7,8,11,12]) []),(26,.cut J3),(27,.draw (od [1,3,5,9,6,10,13,14,17,18]) []),(30,.cut J3),(31,.draw (od [1,3,5,9,6,10,13,14,17,18]) []),(35,.cut [(.normal,⟨[(0,.pc 0 0),(5,.pc 2 0),(6,.pc 3 0),(63,.bool)],G3⟩)]),(38,.cut [(.normal,⟨[(0,.pc 0 0),(6,.pc 2 0)],[c25,.row 78,c5]⟩)])])
instance:Ok zlh:=kA
def zli:Sig:=⟨JP,[c25,.row 78]⟩
def zlj:List (XK×Sig):=[(.ret,JV)]
def zyo:Nat->Uv Hint:=hfind [(9,.draw (od [1,3,5,7,9,11,15,12,16,19,20,23]) []),(15,.draw (od [1,3,5,7,9,11,13,15,17,19,21,23,24]) []),(17,.cut [(.normal,⟨[(0,.pc 0 0),(3,.pc 2 0),(5,ii),(53,.bool)],[c53,.gone,c6,.row 78]⟩)]),(18,.cut [(.normal,JV)]),(21,.draw (od [1,3,5,7,9,11,13,15,17,19,21,23,24]) [])]
def zlk:Sig:=⟨JP,[c25,.row 78]⟩
def zll:List (XK×Sig):=[(.ret,JV)]
def zyp:Nat->Uv Hint:=hfind [(10,.cut [(.ret,JV),Jo]),(12,.draw (od [1,3,5,6,8]) []),(17,.cut [(.normal,⟨[(0,.pc 0 0),(3,.pc 2 0),(4,.pc 3 0),(11,ii),(21,.bool)],G3⟩)]),(26,.cut [Jo]),(27,.draw (od [1,5,9,2,6,10,13,14,17,18]) []),(30,.cut [Jo]),(34,.cut [Jo]),(35,.draw (od [1,3,5,7,8,11,12]) []),(38,.cut [Jo]),(39,.draw (od [1,3,5,7,8,11,12]) []),(42,.cut [Jo]),(43,.draw (od [1,7,13,2,5,8,10,14,17,18,21,22]) []),(46,.cut [Jo]),(50,.cut [(.normal,⟨[(0,.pc 0 0),(4,.pc 2 0)],[c25,.row 78,c5]⟩)]),(51,.draw (od [1,3,5,7,9,13,10,14,17,18,21,22,25,26]) [])]
def XI:Sig:=⟨JP,[c25,.row 78]⟩
def XJ:List (XK×Sig):=[(.ret,JV)]
def zyq:Nat->Uv Hint:=hfind [(5,.loop ⟨[(0,.pc 0 0),(7,.sl 94),(8,ii),(9,ii)],[c27,.gone,.row 78]⟩ [(.exit 0,JV)])]
def zgB(h:XI.ty CC->Uv (zg CC XJ)):Spec CC:=⟨61,0,XI,XJ,h⟩
def zgC(h:XI.ty CC->Uv (zg CC XJ))(x:zli.ty CC):Uv (zg CC zlj):=we ⟨d⟩ [zck,VW,zgB h] lpO prog f155 0 zli zlj zyo x
def zvd(h:XI.ty CC->Uv (zg CC XJ)):Spec CC:=⟨155,0,zli,zlj,zgC h⟩
theorem zve{h:XI.ty CC->Uv (zg CC XJ)}(a:Spec.OK prog (zgB h)):Spec.OK prog (zvd h):=yI (zy (okP zck) (zy (okP VW) (zy a yJ))) ZG ZF zyo jO jO jO λx=>rfl
def zgD(h:XI.ty CC->Uv (zg CC XJ))(x:zlk.ty CC):Uv (zg CC zll):=we ⟨d⟩ [zhN,zlh,zvd h,zck,zhP,VW] lpO prog f110 0 zlk zll zyp x
def zvf(h:XI.ty CC->Uv (zg CC XJ)):Spec CC:=⟨110,0,zlk,zll,zgD h⟩
theorem zvg{h:XI.ty CC->Uv (zg CC XJ)}(a:Spec.OK prog (zgB h)):Spec.OK prog (zvf h):=yI (zy (okP zhN) (zy (okP zlh) (zy (zve a) (zy (okP zck) (zy (okP zhP) (zy (okP VW) yJ)))))) ZG ZF zyp jO jO jO λx=>rfl
def zi9(h:XI.ty CC->Uv (zg CC XJ))(x:XI.ty CC):Uv (zg CC XJ):=we ⟨d⟩ [zvf h] lpO prog f61 0 XI XJ zyq x
def zAe(h:XI.ty CC->Uv (zg CC XJ)):Spec CC:=⟨61,0,XI,XJ,zi9 h⟩
theorem zAf{h:XI.ty CC->Uv (zg CC XJ)}(a:Spec.OK prog (zgB h)):Spec.OK prog (zAe h):=yI (zy (zvg a) yJ) ZG ZF zyq jO jO jO λx=>rfl
def zcl:Nat->XI.ty CC->Uv (zg CC XJ)
 |0=>λ_=>q
 |k+1=>zi9 (zcl k)
theorem zja:∀k,Spec.OK prog (zgB (zcl k))
 |0=>⟨f61,jO,jO,jO,λx r h=>by cases h⟩
 |k+1=>zAf (zja k)
def zAU(x:zli.ty CC):Uv (zg CC zlj):=zgC (zcl 100000) x
def zyr:Spec CC:=⟨155,0,zli,zlj,zAU⟩
theorem zAV:Spec.OK prog zyr:=zve (zja 100000)
instance:Ok zyr:=⟨zAV⟩
def zAW(x:zlk.ty CC):Uv (zg CC zll):=zgD (zcl 100000) x
def zys:Spec CC:=⟨110,0,zlk,zll,zAW⟩
theorem zAX:Spec.OK prog zys:=zvg (zja 100000)
instance:Ok zys:=⟨zAX⟩
def zyt(x:XI.ty CC):Uv (zg CC XJ):=zcl 100000 x
def ztq:Spec CC:=⟨61,0,XI,XJ,zyt⟩
theorem zAY:Spec.OK prog ztq:=zja 100000
instance:Ok ztq:=⟨zAY⟩
def zoY:=spA d [ztq,VW] 24 1 f24 Kf [(.ret,⟨[(0,.val 31)],[]⟩)] (hfind [(18,.loop JL [(.exit 0,⟨[(2,.pc 0 0),(3,.pc 1 0),(4,.pc 2 0)],[c39,c37,c42,.row 9,.row 78]⟩)]),(34,.cut [(.normal,JL)]),(38,.cut [(.normal,JL)])])
instance:Ok zoY:=kA
def ztr:=spA d [Wp] 55 0 f55 ⟨[(0,.pc 0 0),(1,.val 94),(2,.bool),(3,ii)],J2⟩ [Jc,H4] (hfind [])
instance:Ok ztr:=kA
def zts:Sig:=⟨[(0,.pc 0 0),(1,.pc 1 0),(2,.pc 2 0),(3,.ifc 164 (.agg [ii,ii]))],Ge⟩
def ztt:List (XK×Sig):=[(.ret,⟨[],[c30,c11,c11,.forow 34]⟩)]
def zyu:Nat->Uv Hint:=hfind [(5,.draw (od [1,3,5,7,8,10,12]) [])]
def ztu(x:zts.ty CC):Uv (zg CC ztt):=zb9 ⟨d⟩ [] lpO prog f54 0 zts ztt zyu x
def zyv:Spec CC:=⟨54,0,zts,ztt,ztu⟩
theorem zAZ:Spec.OKD prog zyv:=Vq yJ ZG ZF zyu jO jO jO λx=>rfl
def ztv:Sig:=⟨KQ,Ge⟩
def ztw:List (XK×Sig):=[(.ret,⟨[],Ge⟩)]
def zyw:Nat->Uv Hint:=hfind []
def ztx(x:ztv.ty CC):Uv (zg CC ztw):=zb9 ⟨d⟩ [] lpO prog f54 0 ztv ztw zyw x
def zyx:Spec CC:=⟨54,0,ztv,ztw,ztx⟩
theorem zA0:Spec.OKD prog zyx:=Vq yJ ZG ZF zyw jO jO jO λx=>rfl
def zty:Sig:=⟨[(0,.val 94),(1,.sl 122),(2,.sl 119)],[]⟩
def ztz:List (XK×Sig):=[(.ret,⟨Ko,[.orow 34]⟩)]
def zyy:Nat->Uv Hint:=hfind [(3,.loop ⟨[(1,.sl 122),(2,.sl 119),(3,.pc 0 0),(6,.pc 1 0),(7,.pc 2 0),(8,.pc 3 0),(14,.clo 54 [.pc 1 0,.pc 2 0,.pc 3 0])],[c6,c30,c11,c11]⟩ []),(10,.loop J6 [Jj,(.exit 0,⟨[(3,.pc 0 0),(6,.pc 1 0),(7,.pc 2 0),(8,.pc 3 0),(9,.pc 4 0)],[c6,c30,c11,c11,c35,.orow 34]⟩)]),(18,.cut [Jj,(.normal,J6)]),(23,.draw (od [1,3,5,7,11,13,8718,8720,16,8,18,21,23,24,14,16,18,21,23,24]) [Jj,(.normal,J6)]),(29,.loop ⟨[(6,.pc 1 0),(7,.pc 2 0),(8,.pc 3 0),(9,.pc 4 0),(46,.sl 94),(47,ii),(48,ii)],H3⟩ [Jj,(.exit 2,⟨[(6,.pc 1 0),(7,.pc 2 0),(8,.pc 3 0),(9,.pc 4 0)],H3⟩)]),(37,.cut [Jj,(.normal,JU)]),(44,.draw (od [1,3,5,7,9,11,13,15,17,19,21,23,25,26,29,31,33,35,36]) [Jj,(.normal,JU)])]
def zyz(x:zty.ty CC):Uv (zg CC ztz):=zhC ⟨d⟩ [zoS,ztm,ztp,zoY,ztr] (zyx) (zyv) lpO prog f22 3 zty ztz zyy x
def ztA:Spec CC:=⟨22,3,zty,ztz,zyz⟩
theorem zA1:Spec.OK prog ztA:=zhD Oks.o zA0 zAZ ZG ZF zyy jO jO jO λx=>rfl
instance:Ok ztA:=⟨zA1⟩
def zdK:=spA d [] 58 0 f58 ⟨KH,[c4,.forow 68]⟩ [(.ret,G6)] (hfind [(2,.cut [(.normal,G6)])])
instance:Ok zdK:=kA
def zoZ:=spA d [] 107 1 f107 ⟨Ks,[c51,.row 206]⟩ [(.ret,⟨[(0,ii)],[c51,.row 206]⟩)] (hfind [(6,.loop ⟨[(0,.pc 0 0),(1,.str),(5,ii)],[c51,.row 206]⟩ [(.ret,⟨[(4,ii)],[c51,.row 206]⟩),(.exit 0,⟨[],[c51,.row 206]⟩)])])
instance:Ok zoZ:=kA
def ztB:=spA d [zdK,zoZ,zhL] 59 1 f59 ⟨[(0,.pc 0 0),(1,.val 98)],[c4,.forow 68]⟩ [(.ret,⟨[(0,.agg [.str,ii,.row 2])],[c4,.forow 68,.row 206]⟩)] (hfind [(20,.loop ⟨[(0,.pc 0 0),(3,.pc 2 0),(4,.pc 3 0),(5,ii),(6,.pc 4 0),(7,ii)],G5⟩ [(.exit 0,⟨HE,G5⟩)]),(38,.cut [(.normal,⟨[(0,.pc 0 0),(3,.pc 2 0),(4,.pc 3 0),(5,ii),(6,.pc 4 0),(7,ii),(8,.pc 5 0),(9,.pc 6 0)],[c4,.forow 68,c7,c26,c55,c7,c7,.row 206]⟩)]),(45,.cut [(.normal,⟨[(0,.pc 0 0),(3,.pc 2 0),(4,.pc 3 0),(5,ii),(6,.pc 4 0),(7,ii),(9,.pc 5 0),(11,.pc 6 0),(60,.bool)],Gk⟩)]),(46,.cut [(.normal,⟨[(0,.pc 0 0),(3,.pc 2 0),(4,.pc 3 0),(5,ii),(6,.pc 4 0),(7,ii),(9,.pc 5 0),(11,.pc 6 0)],Gk⟩)]),(52,.cut Kv),(56,.draw (od [1,3,5,7,9,11,13,15,17,18,21,22]) []),(59,.cut Kv),(68,.cut [(.normal,⟨[(4,.pc 2 0),(6,.pc 3 0)],[c4,.forow 68,c26,.cell [.str,ii,.row 4],.row 206]⟩)])])
instance:Ok ztB:=kA
def zlm:=spA d [] 107 1 f107 HJ KI (hfind [(6,.loop ⟨[(0,.pr 0 68 0),(1,.str),(5,ii)],[.forow 68]⟩ [(.ret,⟨[(4,ii)],[.forow 68]⟩),HB])])
instance:Ok zlm:=kA
def zo0:=spA d [zlm] 184 2 f184 HJ [(.ret,⟨[(0,.val 206),(1,ii)],[.forow 68]⟩)] (hfind [(13,.draw (od [1,3,5,7,9,11,13,15,17,19,21,23,25,27,29,31,33,34,37]) [])])
instance:Ok zo0:=kA
def zln:=spA d [zo0] 152 1 f152 ⟨[(0,.pr 0 68 0),(1,.val 98),(2,.val 206)],[.forow 68]⟩ KI (hfind [(5,.cut [KP,(.normal,⟨[(0,.pr 0 68 0),(4,.pc 1 0),(5,.pc 2 0)],[.forow 68,c7,c12]⟩)]),(31,.cut [KP,(.normal,⟨[(4,.pc 1 0),(5,.pc 2 0),(7,.pc 3 0)],[.forow 68,c7,c12,c12]⟩)]),(45,.cut [(.normal,⟨[(4,.pc 1 0),(5,.pc 2 0),(7,.pc 3 0),(9,.bool)],[.forow 68,c7,c12,c12]⟩)]),(48,.cut [(.normal,⟨[(60,.bool)],[.forow 68]⟩)])])
instance:Ok zln:=kA
def ztC:=spA d [zln] 151 1 f151 ⟨[(0,.pr 0 68 0),(1,.sl 98),(2,.sl 206)],[.forow 68]⟩ KI (hfind [(14,.loop ⟨[(0,.pr 0 68 0),(1,.sl 98),(2,.sl 206),(7,ii)],[.forow 68]⟩ [KP,HB]),(24,.draw (od [1,3,5,7,9,11,13,15,17,18,21]) [])])
instance:Ok ztC:=kA
def zo1:=spA d [ztC] 150 2 f150 ⟨Hf,[c4,.forow 68]⟩ [(.ret,HN)] (hfind [(6,.loop ⟨[(0,.pc 0 0),(1,.pr 1 68 0),(5,.pc 2 0),(6,.pc 3 0),(8,ii)],[c4,.forow 68,c7,c12]⟩ [(.ret,⟨[(6,.pc 2 0),(7,ii)],[c4,.forow 68,c12]⟩),(.exit 0,⟨[(6,.pc 2 0)],[c4,.forow 68,c12]⟩)]),(16,.draw (od [1,3,5,7,9,11,13,15,17,19,21]) []),(19,.draw (od [1,3,5,7,9,11,13,15,17,19,21,22,25]) [])])
instance:Ok zo1:=kA
def ztD:=spA d [zo0,zo1] 149 2 f149 ⟨Hf,[c4,.forow 68]⟩ [(.ret,HN)] (hfind [(10,.cut JA),(23,.cut [(.normal,⟨[(6,.pc 2 0),(9,.pc 3 0),(10,ii),(46,.bool)],Hc⟩)]),(24,.cut [(.normal,⟨[(6,.pc 2 0),(9,.pc 3 0),(10,ii)],Hc⟩)]),(33,.cut [(.normal,⟨[(0,.pc 0 0),(1,.pr 1 68 0),(5,.pc 2 0),(6,.pc 3 0),(8,.pc 4 0),(21,ii),(49,.bool)],[c4,.forow 68,c7,c12,c12]⟩)]),(36,.cut JA),(59,.cut [(.normal,⟨[(6,.pc 2 0),(8,.pc 3 0),(11,.pc 4 0),(87,.bool)],[c4,.forow 68,c12,c12,c12]⟩)]),(71,.cut [(.normal,⟨[(0,.pc 0 0),(1,.pr 1 68 0),(5,.pc 2 0),(6,.pc 3 0),(8,.pc 4 0),(21,ii),(90,.bool)],[c4,.forow 68,c7,c12,c12]⟩)]),(74,.cut JA),(98,.cut [(.normal,⟨[(6,.pc 2 0),(15,.pc 3 0)],Hc⟩)]),(111,.cut [(.normal,⟨[(6,.pc 2 0),(17,.pc 3 0),(18,ii),(129,.bool)],Hc⟩)]),(112,.cut [(.normal,⟨[(6,.pc 2 0),(17,.pc 3 0),(18,ii)],Hc⟩)])])
instance:Ok ztD:=kA
def ztE:=spA d [zln] 151 1 f151 ⟨[(0,.pr 0 68 0),(1,.sl 98),(2,.nxp 0 68 206)],[.forow 68]⟩ KI (hfind [(14,.loop ⟨[(0,.pr 0 68 0),(1,.sl 98),(2,.nxp 0 68 206),(7,ii)],[.forow 68]⟩ [KP,HB]),(24,.draw (od [1,3,5,7,9,11,13,15,17,18,21]) [])])
instance:Ok ztE:=kA
def zlo:=spA d [ztD,zlm,zo1,ztE,zln] 109 1 f109 ⟨Hf,[c4,.orow 68]⟩ [(.ret,⟨[(0,ii)],[c4,.orow 68]⟩)] (hfind [(10,.cut J1),(30,.draw (od [1,3,5,7,9,11,12,14,17,19,20]) []),(37,.draw (od [1,3,5,7,9,11,13,15,17]) []),(48,.cut J1),(56,.cut J1),(61,.loop ⟨[(0,.pc 0 0),(1,.pr 1 68 0),(5,.pc 2 0),(13,ii)],GH⟩ [(.ret,⟨[(6,ii)],[c4,.orow 68]⟩),(.exit 1,Hp)]),(71,.draw (od [1,3,5,7,9,11,13,15,17,19,21]) []),(74,.draw (od [1,3,5,7,9,11,13,15,17,19,21,23,25,27,29,31,33,35,37,39,40,43]) []),(84,.cut [(.normal,⟨[(1,.pr 1 68 0),(5,.pc 2 0),(7,.pc 3 0),(17,ii),(117,.bool)],[c4,.orow 68,c7,c12]⟩)]),(87,.cut J1),(89,.draw (od [1,3,5,7,9,11,12,15]) []),(99,.draw (od [1,3,5,7,9,11,12,15]) []),(103,.cut J1)])
instance:Ok zlo:=kA
def VX:Sig:=⟨[(0,.pc 0 0),(1,.pr 1 68 0),(2,.sl 98)],[c4,.forow 68]⟩
def VY:List (XK×Sig):=[(.ret,Hp)]
def zyA:Nat->Uv Hint:=hfind [(3,.loop Kq [(.ret,Hp),(.exit 0,Hp)]),(6,.cut [(.normal,⟨[(0,.pc 0 0),(1,.pr 1 68 0),(2,.sl 98),(6,ii),(20,.bool)],[c4,.orow 68]⟩)]),(25,.cut [(.normal,⟨[(0,.pc 0 0),(1,.pr 1 68 0),(2,.sl 98),(6,ii),(7,.pc 2 0),(45,.bool)],GH⟩)]),(26,.cut [(.normal,Kq)]),(30,.loop ⟨[(0,.pc 0 0),(1,.pr 1 68 0),(2,.sl 98),(6,ii),(7,.pc 2 0),(9,ii)],GH⟩ [(.exit 2,Kq)])]
def zo2(h:VX.ty CC->Uv (zg CC VY)):Spec CC:=⟨60,0,VX,VY,h⟩
def zjb(h:VX.ty CC->Uv (zg CC VY))(x:VX.ty CC):Uv (zg CC VY):=we ⟨d⟩ [zlo,zdK,zo2 h] lpO prog f60 0 VX VY zyA x
def zAg(h:VX.ty CC->Uv (zg CC VY)):Spec CC:=⟨60,0,VX,VY,zjb h⟩
theorem zAh{h:VX.ty CC->Uv (zg CC VY)}(a:Spec.OK prog (zo2 h)):Spec.OK prog (zAg h):=yI (zy (okP zlo) (zy (okP zdK) (zy a yJ))) ZG ZF zyA jO jO jO λx=>rfl
def zgE:Nat->VX.ty CC->Uv (zg CC VY)
 |0=>λ_=>q
 |k+1=>zjb (zgE k)
theorem zvh:∀k,Spec.OK prog (zo2 (zgE k))
 |0=>⟨f60,jO,jO,jO,λx r h=>by cases h⟩
 |k+1=>zAh (zvh k)
def zyB(x:VX.ty CC):Uv (zg CC VY):=zgE 100000 x
def ztF:Spec CC:=⟨60,0,VX,VY,zyB⟩
theorem zA2:Spec.OK prog ztF:=zvh 100000
instance:Ok ztF:=⟨zA2⟩
def zcm:=spA d [] 112 1 f112 KD [(.ret,⟨[(0,.val 183)],[]⟩)] (hfind [])
instance:Ok zcm:=kA
def zo3:=spA d [zcm] 159 1 f159 ⟨[(0,.sl 98)],[]⟩ [(.ret,⟨[(0,.row 0)],[.row 183]⟩)] (hfind [(8,.loop ⟨[(0,.sl 98),(3,.row 0),(4,ii)],[.row 183]⟩ [(.exit 0,⟨[(3,.row 0)],[.row 183]⟩)])])
instance:Ok zo3:=kA
def ztG:=spA d [zcm,zo3] 158 1 f158 KD [(.ret,KT)] (hfind [(13,.cut [(.normal,⟨[(2,.pc 0 0),(3,.pc 1 0),(4,.pc 2 0),(20,ii),(21,.bool)],[c5,c7,c5]⟩)]),(16,.cut Jt),(20,.cut Jt),(28,.cut Jt),(36,.cut Jt),(42,.cut Jt),(48,.cut Jt),(56,.cut Jt)])
instance:Ok ztG:=kA
def zlp:=spA d [ztG,zcm,zo3] 111 1 f111 KD [(.ret,KT)] (hfind [(16,.cut Jy),(24,.cut Jy),(28,.cut Jy),(34,.cut Jy),(40,.cut Jy),(48,.cut Jy),(54,.cut KJ),(61,.cut KJ),(68,.cut KJ)])
instance:Ok zlp:=kA
def VZ:Sig:=Gp
def V0:List (XK×Sig):=[(.ret,⟨[(0,.row 0)],[.row 186]⟩)]
def zyC:Nat->Uv Hint:=hfind [(8,.loop ⟨Ki,[c7,.row 186]⟩ [(.exit 0,⟨[(5,.row 0)],[.row 186]⟩)]),(16,.cut [(.normal,⟨Ki,[c7,.row 186]⟩)]),(23,.cut [(.normal,⟨[(1,ii),(2,.pc 0 0),(5,.row 1),(6,ii),(7,.pc 2 0),(8,ii),(40,.bool)],[c7,.row 186,c7]⟩)]),(45,.loop ⟨[(1,ii),(2,.pc 0 0),(5,.row 1),(6,ii),(7,.pc 2 0),(8,ii),(12,.row 3),(13,ii),(14,ii)],[c7,.row 186,c7,.row 186]⟩ [(.exit 2,⟨[(1,ii),(2,.pc 0 0),(5,.row 1),(6,ii),(7,.pc 2 0),(8,ii),(13,ii)],[c7,.row 186,c7]⟩)]),(71,.loop ⟨[(1,ii),(2,.pc 0 0),(5,.row 1),(6,ii),(15,.row 2),(16,ii)],[c7,.row 186,.row 186]⟩ [(.exit 4,⟨Ki,[c7,.row 186]⟩)])]
def zo4(h:VZ.ty CC->Uv (zg CC V0)):Spec CC:=⟨63,1,VZ,V0,h⟩
def zjc(h:VZ.ty CC->Uv (zg CC V0))(x:VZ.ty CC):Uv (zg CC V0):=we ⟨d⟩ [zlp,zcm,zo4 h] lpO prog f63 1 VZ V0 zyC x
def zAi(h:VZ.ty CC->Uv (zg CC V0)):Spec CC:=⟨63,1,VZ,V0,zjc h⟩
theorem zAj{h:VZ.ty CC->Uv (zg CC V0)}(a:Spec.OK prog (zo4 h)):Spec.OK prog (zAi h):=yI (zy (okP zlp) (zy (okP zcm) (zy a yJ))) ZG ZF zyC jO jO jO λx=>rfl
def zgF:Nat->VZ.ty CC->Uv (zg CC V0)
 |0=>λ_=>q
 |k+1=>zjc (zgF k)
theorem zvi:∀k,Spec.OK prog (zo4 (zgF k))
 |0=>⟨f63,jO,jO,jO,λx r h=>by cases h⟩
 |k+1=>zAj (zvi k)
def zyD(x:VZ.ty CC):Uv (zg CC V0):=zgF 100000 x
def ztH:Spec CC:=⟨63,1,VZ,V0,zyD⟩
theorem zA3:Spec.OK prog ztH:=zvi 100000
instance:Ok ztH:=⟨zA3⟩
def zo5:=spA d [ztH] 25 1 f25 KD [(.ret,⟨[(0,.agg [.str,.row 0,.row 1])],[.row 9,.row 186]⟩)] (hfind [(10,.loop ⟨[(1,.pc 0 0),(2,.pc 1 0),(3,.pc 2 0),(4,ii),(5,ii)],[c7,c39,c37,.row 9]⟩ [(.exit 0,⟨[(1,.pc 0 0),(2,.pc 1 0),(3,.pc 2 0),(4,ii)],[c7,c39,c37,.row 9]⟩)]),(19,.draw (od [1,3,5,7,9,11,13,15,16,18,21,22]) []),(24,.draw (od [1,3,5,7,9,11,13,15,17,18,20,23,24]) [])])
instance:Ok zo5:=kA
def ztI:=spA d [zdK,ztB,ztF,zo5] 23 1 f23 ⟨[(0,.val 98),(1,.sl 208),(2,.sl 202)],[]⟩ [(.ret,⟨[(0,.pc 0 0)],[c4,.orow 68]⟩)] (hfind [(8,.loop ⟨[(3,.pc 0 0),(7,.pc 1 0),(8,ii)],Ho⟩ [(.exit 0,⟨[(3,.pc 0 0),(7,.pc 1 0)],Ho⟩)]),(11,.cut [(.normal,⟨[(3,.pc 0 0),(7,.pc 1 0),(8,ii),(29,.bool)],Ho⟩)]),(27,.draw (od [1,3,5,7,9,11,12,14,17,19,20]) []),(33,.loop HM [(.exit 2,Gd)]),(36,.cut [(.normal,⟨[(3,.pc 0 0),(7,.pc 1 0),(10,ii),(75,.bool)],Ho⟩)]),(47,.draw (od [1,3,5,7,9,11,13,15,17,19,21,23,25,26]) []),(51,.cut [(.normal,⟨[(3,.pc 0 0),(7,.pc 1 0),(10,ii),(11,.pc 2 0),(118,.bool)],[c7,.cell [.sl 208,.sl 202,.row 3,ii,ii],c7,.orow 68]⟩)]),(52,.cut [(.normal,HM)]),(59,.cut [(.normal,Gd)])])
instance:Ok ztI:=kA
def ztJ:=spA d [ztk,P50,zoO,ztA,ztI,zoY,zo5] 11 3 f11 KR [(.ret,⟨[(0,.val 54),(1,.val 59),(2,.bool)],[]⟩)] (hfind [(8,.cut [(.normal,⟨[(1,.str),(4,.pc 0 0),(5,.pc 1 0),(7,.pc 2 0),(9,.pc 3 0),(38,.bool)],[c24,c48,c56,c6]⟩)]),(26,.loop J4 [(.exit 0,⟨[(4,.pc 0 0),(5,.pc 1 0),(7,.pc 2 0),(15,.row 3),(17,ii),(18,.pc 4 0),(19,.pc 5 0)],[c24,c48,c56,.orow 34,.cell [.sl 208,.sl 202,.row 6,ii,ii],.cell [.row 3,.row 7,.row 6,.row 8],.orow 68,.row 31,.row 65]⟩)]),(39,.cut [(.normal,J4)]),(41,.draw (od [1,3,5,6,8,10,13,14]) []),(42,.draw (od [1,3,5,7,9,11,13,14,16,18,21,22]) []),(46,.draw (od [1,3,5,7,9,11,13,15,17,19,21,23,25,27,29,31,33,35,37,39,41,43,45,47,49,51,53,55,57,58,60,63]) [(.normal,⟨[(4,.pc 0 0),(5,.pc 1 0),(6,.bool)],[c56,.cell [.row 2,.row 3,.row 4,.row 5],.orow 34,.row 31,.orow 68,.row 65]⟩)])])
instance:Ok ztJ:=kA
def zo6:=spA d [ztJ] 4 3 f4 KR [(.ret,⟨[(0,.row 0),(1,.row 1),(2,.bool)],[.row 40,.row 62]⟩)] (hfind [(20,.loop ⟨[(7,.pc 0 0),(8,.pc 1 0),(10,.row 2),(11,.row 3),(24,ii),(25,ii)],[c56,.cell [.val 59],.row 40,.row 62]⟩ [(.exit 0,⟨[(10,.row 0),(11,.row 1)],[.row 40,.row 62]⟩)]),(32,.draw (od [1,3,5,7,9,11,13,15,17,19,21,23,25,27,29,31,33,35,36,38,40]) []),(33,.draw (od [1,3,5,7,9,11,13,15,17,19,21,23,25,27,29,31,33,35,36,38,40,42]) [])])
instance:Ok zo6:=kA
def zo7:=spA d [] 231 0 f231 ⟨[(0,.pc 0 0),(1,.ifc 3 (ii))],Jg⟩ Gw (hfind [(0,.draw (od [1,3,5,7,9,11,13,14,16,19,21,22]) [])])
instance:Ok zo7:=kA
def zhQ:=spA d [] 65 1 f65 GA [(.ret,⟨[(0,ii)],Jg⟩)] (hfind [])
instance:Ok zhQ:=kA
def zlq:=spA d [] 229 1 f229 ⟨KH,Jg⟩ [(.ret,GE)] (hfind [(3,.draw (od [1,3,5,7,9,11,13,15,17,19,21,23,25,27,29,31,33,35,37,39,41,43,45,47,49,51]) [])])
instance:Ok zlq:=kA
def zhR:=spA d [] 232 0 f232 ⟨KH,Jg⟩ [(.ret,⟨[],Jg⟩)] (hfind [(0,.draw (od [1,3,5,7,9,11,13,15,17,19,21,23,25,27,29,31,33,35,37,39,41,43,45,47,49,50,53,54]) [])])
instance:Ok zhR:=kA
def ztK:=spA d [zlq,zhR] 160 0 f160 HU [(.ret,⟨[],Jg⟩)] (hfind [(1,.loop HU [(.exit 0,⟨[],Jg⟩)]),(7,.cut [(.normal,⟨[(0,.ifc 187 (.pc 0 0)),(1,ii),(4,ii),(17,.bool)],Jg⟩)])])
instance:Ok ztK:=kA
def ztL:=spA d [zo7,zhQ,ztK] 113 0 f113 ⟨[(0,.ifc 187 (.pc 0 0)),(1,.ifc 3 (ii))],Jg⟩ Gw (hfind [])
instance:Ok ztL:=kA
def zo8:=spA d [ztL] 64 0 f64 ⟨Ka,Jg⟩ Gw (hfind [(2,.cut [(.normal,⟨[],Ku⟩)])])
instance:Ok zo8:=kA
def ztM:=spA d [zlq,zhR] 114 1 f114 ⟨[(0,.ifc 187 (.pc 0 0)),(1,ii),(2,ii)],Jg⟩ [(.ret,GE)] (hfind [(6,.loop H0 [(.exit 0,G4)]),(7,.cut [(.exit 0,G4),(.normal,H0)]),(12,.cut [(.normal,⟨[(0,.ifc 187 (.pc 0 0)),(1,ii),(2,ii),(7,ii),(8,ii),(21,.bool)],Jg⟩)]),(22,.cut [(.normal,⟨[(0,.ifc 187 (.pc 0 0)),(1,ii),(2,ii),(7,ii),(9,ii),(10,ii),(33,.bool)],Jg⟩)]),(23,.cut [(.normal,⟨[(0,.ifc 187 (.pc 0 0)),(1,ii),(2,ii),(7,ii),(9,ii)],Jg⟩)])])
instance:Ok ztM:=kA
def zo9:=spA d [] 230 1 f230 GA [(.ret,Gy)] (hfind [])
instance:Ok zo9:=kA
def ztN:=spA d [zhQ,zhR,ztM,zo9] 66 1 f66 ⟨[(0,.ifc 187 (.pc 0 0))],Jg⟩ [(.ret,Gy)] (hfind [])
instance:Ok ztN:=kA
def zlr:=spA d [] 29 1 f29 ⟨[(0,.sl 4)],[]⟩ [(.ret,Gu)] (hfind [])
instance:Ok zlr:=kA
def zdL:=spA d [] 13 2 f13 Kh [(.ret,⟨[(0,.val 78),(1,.bool)],[]⟩)] (hfind [(4,.cut [(.normal,⟨[(1,ii),(2,.pc 0 0),(4,.pc 1 0),(15,.bool)],[c18,c5]⟩)])])
instance:Ok zdL:=kA
def ztO:=spA d [zdL,zcj] 16 4 f16 Kh [(.ret,⟨[(0,.val 85),(1,.val 85),(2,ii),(3,.bool)],[]⟩)] (hfind [(6,.cut [(.normal,⟨[(2,.pc 0 0),(4,.pc 1 0),(5,.pc 2 0),(8,.pc 3 0),(34,.bool)],[c18,c8,c8,c22]⟩)]),(9,.draw (od [1,3,4,6,9,11]) []),(15,.draw (od [1,3,5,7,9,11,13,21,23,25,27,29,31,33,14,17,19,34,36,38,41]) [])])
instance:Ok ztO:=kA
def zpa:=spA d [] 17 1 f17 ⟨[(0,.val 40),(1,.val 85)],[]⟩ Jn (hfind [(3,.cut Jb)])
instance:Ok zpa:=kA
def zpb:=spA d [] 33 1 f33 ⟨[(0,.val 122),(1,.pc 0 0)],[c22]⟩ [(.ret,G7)] (hfind [])
instance:Ok zpb:=kA
def ztP:=spA d [zpb] 32 1 f32 ⟨[(0,.sl 122),(1,.clo 33 [.pc 0 0])],[c22]⟩ [(.ret,GD)] (hfind [(6,.loop ⟨[(0,.sl 122),(1,.clo 33 [.pc 0 0]),(7,ii),(8,ii)],[c22]⟩ HI)])
instance:Ok ztP:=kA
def zpc:=spA d [] 35 1 f35 ⟨[(0,.val 34),(1,.pc 0 0)],[c22]⟩ [(.ret,G7)] (hfind [])
instance:Ok zpc:=kA
def ztQ:=spA d [zpc] 34 1 f34 ⟨[(0,.sl 34),(1,.clo 35 [.pc 0 0])],[c22]⟩ [(.ret,GD)] (hfind [(6,.loop ⟨[(0,.sl 34),(1,.clo 35 [.pc 0 0]),(7,ii),(8,ii)],[c22]⟩ HI)])
instance:Ok ztQ:=kA
def ztR:=spA d [ztP,ztQ] 18 1 f18 ⟨[(0,.val 40),(1,.val 78)],[]⟩ [(.ret,⟨[(0,.sl 85)],[]⟩)] (hfind [(8,.cut HO),(20,.cut HO),(27,.draw (od [1,3,5,7,9,11,13,15,17,19,21,23,25,27]) [])])
instance:Ok ztR:=kA
def zhS:=spA d [ztO,zpa,zdL,ztR,zcj] 8 1 f8 Kh Hs (hfind [(7,.cut [Hw,(.normal,⟨[(1,ii),(2,.pc 0 0)],[c18]⟩)]),(10,.cut [(.normal,⟨[(7,ii),(37,.bool)],[]⟩)]),(28,.loop KL [(.exit 0,⟨[(11,.row 0)],[.row 3]⟩)]),(41,.cut [(.normal,KL)]),(42,.draw (od [1,3,5,7,9,11,13,15,17,18,20,22,24]) [])])
instance:Ok zhS:=kA
def zls:=spA d [zdL,zcj] 9 1 f9 Kh Jx (hfind [(6,.cut [(.normal,⟨[(2,.pc 0 0),(5,.pc 1 0),(28,.bool)],[c18,c22]⟩)])])
instance:Ok zls:=kA
def ztS:=spA d [zlr,zhS,zls] 28 1 f28 ⟨[(0,.val 40),(1,ii),(2,.sl 4)],[]⟩ [(.ret,Gu)] (hfind [(8,.loop ⟨[(1,ii),(3,.pc 0 0),(7,.row 1),(15,.row 2),(16,ii),(17,ii)],[c18,.row 4,.row 3]⟩ [(.exit 0,⟨[(1,ii),(3,.pc 0 0),(7,.row 1)],[c18,.row 4]⟩)]),(26,.cut [(.normal,⟨[(7,.row 0)],[.row 4]⟩)])])
instance:Ok ztS:=kA
def zpd:=spA d [zdL] 10 1 f10 Kh Hs (hfind [(7,.cut [(.normal,⟨[(1,ii),(5,.pc 0 0),(13,.bool)],[c22]⟩)]),(8,.cut [Hw,(.normal,⟨[(1,ii)],[]⟩)]),(14,.cut [Hw,(.normal,⟨[(1,ii)],[]⟩)]),(19,.cut [(.normal,⟨[(1,ii),(5,.pc 0 0),(33,.bool)],[c22]⟩)])])
instance:Ok zpd:=kA
def ztT:=spA d [ztS,zpd,zlr,zo8] 27 0 f27 ⟨[(0,ii),(1,.clo 64 [.tup [.pc 0 0]]),(2,.pc 1 0),(3,.pc 2 0)],[.cell [.row 3,.row 4,ii],c18,c49,.row 3,.obj 0 188,.orow 22]⟩ [(.ret,KV)] (hfind [(1,.draw (od [1,3,5,7,9,11,12,15]) []),(5,.loop Jw [(.exit 0,KV)]),(13,.cut [(.normal,Jw)]),(21,.draw (od [1,3,5,6,9,10]) []),(29,.loop JO [(.exit 2,Jw)]),(41,.cut [(.normal,⟨[(1,.clo 64 [.tup [.pc 0 0]]),(3,.pc 2 0),(6,.row 6),(8,ii),(9,ii),(19,.row 7),(20,ii),(21,ii),(39,ii),(40,ii),(56,.bool)],[c41,c18,c49,.gone,.obj 0 188,.orow 22,.row 4,.row 3,.row 3]⟩)]),(42,.cut [(.normal,JO)])])
instance:Ok ztT:=kA
def ztU:=spA d [zo8,zhQ,ztN,ztT] 26 0 f26 ⟨[(0,.bool),(1,.sl 3),(2,.clo 27 [.pc 0 0,.pc 1 0])],[c18,c27,.forow 22]⟩ [(.ret,⟨[],HX⟩)] (hfind [(5,.cut [(.normal,⟨[(1,.sl 3),(2,.clo 27 [.pc 0 0,.pc 1 0]),(6,.pc 3 0)],[c18,c27,.forow 22,.cell [.nils,.row 4,ii],.obj 0 188]⟩)]),(12,.loop ⟨[(2,.clo 27 [.pc 0 0,.pc 1 0]),(6,.pc 3 0),(18,.sl 3),(19,ii),(20,ii)],Gl⟩ [(.exit 0,⟨[(2,.clo 27 [.pc 0 0,.pc 1 0]),(6,.pc 3 0)],Gl⟩)]),(28,.loop ⟨[(2,.clo 27 [.pc 0 0,.pc 1 0]),(6,.pc 3 0),(9,.clo 64 [.tup [.pc 3 0]])],[c18,c27,.orow 22,c57,.row 3,.obj 0 188]⟩ [(.exit 2,⟨[],HX⟩)])])
instance:Ok ztU:=kA
def ztV:=spA d [ztU] 12 1 f12 G9 [(.ret,⟨[(0,.row 0)],[.orow 22]⟩)] (hfind [(13,.draw (od [1,3,5,7,9,10,13,14]) []),(18,.loop ⟨[(1,.pc 0 0),(3,.pc 1 0),(22,ii),(23,ii)],HX⟩ [(.exit 0,⟨[(1,.pc 0 0),(3,.pc 1 0)],HX⟩)])])
instance:Ok ztV:=kA
def zpe:=spA d [] 14 1 f14 ⟨[(0,.val 78)],[]⟩ [(.ret,⟨[(0,.row 0)],[.row 9]⟩)] (hfind [(11,.cut JT),(15,.cut JT),(19,.cut JT),(23,.cut JT),(26,.cut [(.normal,⟨[(1,.pc 0 0),(3,.row 1)],[c22,.row 9]⟩)]),(33,.loop Hl [(.exit 1,⟨[(3,.row 0)],[.row 9]⟩)]),(46,.cut [(.normal,Hl)])])
instance:Ok zpe:=kA
def zpf:=spA d [zdL,zpe,zcj] 7 1 f7 Kh Hs (hfind [(9,.cut [(.normal,Gs)]),(13,.loop ⟨[(2,.pc 0 0),(5,.row 1),(18,.row 2),(19,ii),(20,ii)],[c18,.row 3,.row 9]⟩ [(.exit 0,Gs)])])
instance:Ok zpf:=kA
def zpg:=spA d [ztV,zpf,zhS] 6 2 f6 G9 [(.ret,⟨[(0,ii),(1,ii)],[]⟩)] (hfind [(6,.loop Kx [KU,(.exit 0,⟨[],[]⟩)]),(14,.cut [(.normal,Kx),KU]),(29,.loop ⟨[(1,.pc 0 0),(4,ii),(5,.nx 1 22),(6,.row 2),(12,.row 1),(13,ii),(14,ii),(24,.row 3),(25,ii),(26,ii)],[c18,.orow 22,.obj 0 44,.row 3]⟩ [KU,(.exit 2,⟨[(1,.pc 0 0),(4,ii),(6,.row 1),(12,.row 2),(13,ii),(14,ii)],[c18,.obj 0 44,.orow 22]⟩)]),(53,.loop ⟨[(1,.pc 0 0),(4,ii),(6,.row 1),(12,.row 2),(13,ii),(14,ii),(49,.row 3),(50,ii),(51,ii)],[c18,.obj 0 44,.orow 22,.row 3]⟩ [KU,(.exit 4,Kx)])])
instance:Ok zpg:=kA
def ztW:=spA d [zo6,zpg,zhS,zls] 5 1 f5 ⟨[],[]⟩ Jn (hfind [(15,.cut [(.normal,⟨[(0,.bool)],[]⟩)])])
instance:Ok ztW:=kA
def zfG:=spA d [zo6,ztW,zpg,zpf,zhS,zls,zpd] 3 1 f3 ⟨[(0,.str),(1,.str),(2,.sl 4)],[]⟩ Jn (hfind [(6,.cut [(.normal,⟨[(2,.sl 4),(7,.row 0),(36,.bool)],[.row 40]⟩)]),(16,.loop JR [Kz,(.exit 0,⟨[],[]⟩)]),(24,.cut [(.normal,JR),Kz]),(41,.loop ⟨[(2,.sl 4),(11,.pc 0 0),(14,.row 1),(38,.row 2),(39,ii),(40,ii),(54,ii),(55,ii)],[c18,.obj 0 44,.row 40]⟩ [(.exit 2,⟨[(2,.sl 4),(11,.pc 0 0),(14,.row 1),(38,.row 2),(39,ii),(40,ii)],[c18,.obj 0 44,.row 40]⟩)]),(59,.loop Je [Kz,(.exit 4,JR)]),(67,.cut [Kz,(.exit 4,JR),(.normal,Je)]),(72,.loop ⟨[(2,.sl 4),(11,.pc 0 0),(14,.row 1),(16,ii),(17,ii),(38,.row 2),(39,ii),(40,ii),(67,.row 3),(68,ii),(69,ii)],GF⟩ [Kz,(.exit 6,Je)]),(95,.loop ⟨[(2,.sl 4),(11,.pc 0 0),(14,.row 1),(16,ii),(17,ii),(38,.row 2),(39,ii),(40,ii),(80,.row 3),(81,ii),(82,ii)],GF⟩ [Kz,(.exit 8,Je)]),(121,.cut [(.normal,Je)]),(135,.cut [(.normal,⟨[(2,.sl 4),(11,.pc 0 0),(14,.row 1),(16,ii),(17,ii),(23,.row 2),(38,.row 3),(39,ii),(40,ii),(123,.bool)],[c18,.obj 0 44,.row 3,.row 40]⟩)]),(136,.cut [(.normal,Je)])])
instance:Ok zfG:=kA
theorem zA4:zfG.OK prog:=Ok.o
end
end Go.Px
