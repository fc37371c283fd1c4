/- Part Ch: PxTm. -/
import Derived.Test.YtpcipfnohfefhaaGreatDoorSf
set_option linter.unusedVariables false
set_option linter.unusedSimpArgs false
namespace Go.Px
open Bool renaming false->d,true->j
open Nat renaming beq->o
open _root_.Option renaming some->i,none->m
open Go.Proofs Go.Proofs.Tryz
set_option maxRecDepth 100000
noncomputable section
theorem ZG:Tryz.prog.follows .mixedOrders=true:=by kernel_rfl
def GLk:World->FS->Prop:=λ_ Z=>(∃t p,Z 0 0=i (.iface t p))/\∃t p,Z 1 0=i (.iface t p)
theorem glm{Z τ:FS}{w w':World}{h:zd}(l:Z.le τ)(_:Ext w h w')(g:GLk w Z):GLk w' τ:=by
  obtain⟨⟨t,p,a⟩,t',p',b⟩:=g
  exact⟨⟨t,p,l _ _ _ a⟩,t',p',l _ _ _ b⟩
structure qn where
  k_:Int
  T_:Uq
  n_:Int
  a_:Int
structure q8 where
  W_:(Sl qn)
  D_:Int
structure q6 where
  k_:Int
  T_:Uq
  n_:Int
  a_:Int
  K_:(Sl q6)
structure qp where
  N_:Uq
  w_:Int
structure qr where
  X_:Int
  Y_:Int
  C_:Int
structure qa where
  N_:Uq
  S_:Int
  o_:Int
  q_:(Sl qp)
  I_:(Sl qr)
structure qf where
  N_:Uq
  M_:Int
  t_:Int
structure qd where
  N_:Uq
  P_:(Sl qf)
  R_:qf
structure q9 where
  k_:Int
  T_:Uq
  n_:Int
  a_:Int
structure q7 where
  k_:Int
  T_:Uq
  n_:Int
  a_:Int
  K_:(Sl q7)
structure qk where
  N_:Uq
  w_:Int
structure qq where
  X_:Int
  Y_:Int
  C_:Int
structure qc where
  N_:Uq
  S_:Int
  o_:Int
  q_:(Sl qk)
  I_:(Sl qq)
structure qh where
  N_:Uq
  M_:Int
  t_:Int
structure qg where
  N_:Uq
  P_:(Sl qh)
  R_:qh
structure qw where
  J_:(Sl q6)
  E_:(Sl qa)
  s_:(Sl qd)
  r_:(Sl q7)
  U_:(Sl qc)
  G_:(Sl qg)
structure qb where
  N_:Uq
  P_:Int
  V_:(Sl qf)
structure qt where
  N_:Uq
  n_:Int
structure qi where
  O_:Int
  a_:Int
  X_:Uq
  Y_:Uq
  A_:qt
  B_:qt
  Q_:(Sl qt)
  g_:Int
  h_:Bool
structure q1e where
  N_:Uq
  P_:(Sl Uq)
  L_:(Sl qi)
structure q10 where
  J_:(Sl q6)
  E_:(Sl qa)
  s_:(Sl qd)
  r_:(Sl q7)
  U_:(Sl qc)
  G_:(Sl qg)
structure qe where
  N_:Uq
  P_:Int
  V_:(Sl qh)
structure ql where
  N_:Uq
  n_:Int
structure qm where
  O_:Int
  a_:Int
  X_:Uq
  Y_:Uq
  A_:ql
  B_:ql
  Q_:(Sl ql)
  g_:Int
  h_:Bool
structure q19 where
  N_:Uq
  P_:(Sl Uq)
  L_:(Sl qm)
structure q1k where
  J_:(Sl qb)
  H_:(Sl q1e)
  r_:(Sl qe)
  j_:(Sl q19)
structure qj where
  c_:q1e
  f_:qb
  z_:(Sl qd)
  F_:(Sl qb)
  Z_:(Sl qa)
structure qy where
  c_:q19
  f_:qe
  z_:(Sl qg)
  F_:(Sl qe)
  Z_:(Sl qc)
abbrev DT:List (Nat×Type):=[(104,qn),(101,q8),(35,q6),(214,qp),(275,qr),(80,qa),(9,Uq),(47,qf),(49,qd),(163,q9),(86,q7),(228,qk),(231,qq),(171,qc),(3,Int),(175,qh),(177,qg),(30,qw),(53,qb),(68,qt),(71,qi),(61,q1e),(123,q10),(137,qe),(250,ql),(253,qm),(134,q19),(128,q1k),(63,qj),(139,qy),(131,qy),(43,(Uq×Int)),(72,(Int×Int))]
abbrev DD:Nat->Type:=zuL DT
def zn4:(T:Nat)->Us (PLift (DD T=(Uq×Int))):=λT=>if h:T=43 then i ⟨h ▸ rfl⟩ else m
def zn5:(T:Nat)->Us (PLift (DD T=(Int×Int))):=λT=>if h:T=72 then i ⟨h ▸ rfl⟩ else m
def ET:List ((T:Nat)×TyE DD T):=[⟨104,j,[.int .i64,.str,.int .i64,.int .i64],λ(x:qn)=>(x.k_,x.T_,x.n_,x.a_,()),λ(a0,a1,a2,a3,_)=>i (show qn from⟨a0,a1,a2,a3⟩),λx y h=>by cases h;rfl⟩,
  ⟨101,j,[.sl 104,.int .i64],λ(x:q8)=>(x.W_,x.D_,()),λ(a0,a1,_)=>i (show q8 from⟨a0,a1⟩),λx y h=>by cases h;rfl⟩,
  ⟨35,j,[.int .i64,.str,.int .i64,.int .i64,.sl 35],λ(x:q6)=>(x.k_,x.T_,x.n_,x.a_,x.K_,()),λ(a0,a1,a2,a3,a4,_)=>i (show q6 from⟨a0,a1,a2,a3,a4⟩),λx y h=>by cases h;rfl⟩,
  ⟨214,j,[.str,.int .i64],λ(x:qp)=>(x.N_,x.w_,()),λ(a0,a1,_)=>i (show qp from⟨a0,a1⟩),λx y h=>by cases h;rfl⟩,
  ⟨275,j,[.int .i64,.int .i64,.int .i64],λ(x:qr)=>(x.X_,x.Y_,x.C_,()),λ(a0,a1,a2,_)=>i (show qr from⟨a0,a1,a2⟩),λx y h=>by cases h;rfl⟩,
  ⟨80,j,[.str,.int .i64,.int .i64,.sl 214,.sl 275],λ(x:qa)=>(x.N_,x.S_,x.o_,x.q_,x.I_,()),λ(a0,a1,a2,a3,a4,_)=>i (show qa from⟨a0,a1,a2,a3,a4⟩),λx y h=>by cases h;rfl⟩,
  ⟨9,d,[.str],λ(x:Uq)=>(x,()),λ(a0,_)=>i (show Uq from a0),λx y h=>by cases h;rfl⟩,
  ⟨47,j,[.str,.int .i64,.int .i64],λ(x:qf)=>(x.N_,x.M_,x.t_,()),λ(a0,a1,a2,_)=>i (show qf from⟨a0,a1,a2⟩),λx y h=>by cases h;rfl⟩,
  ⟨49,j,[.str,.sl 47,.str,.int .i64,.int .i64],λ(x:qd)=>(x.N_,x.P_,x.R_.N_,x.R_.M_,x.R_.t_,()),λ(a0,a1,a2,a3,a4,_)=>i (show qd from⟨a0,a1,⟨a2,a3,a4⟩⟩),λx y h=>by cases h;rfl⟩,
  ⟨163,j,[.int .i64,.str,.int .i64,.int .i64],λ(x:q9)=>(x.k_,x.T_,x.n_,x.a_,()),λ(a0,a1,a2,a3,_)=>i (show q9 from⟨a0,a1,a2,a3⟩),λx y h=>by cases h;rfl⟩,
  ⟨86,j,[.int .i64,.str,.int .i64,.int .i64,.sl 86],λ(x:q7)=>(x.k_,x.T_,x.n_,x.a_,x.K_,()),λ(a0,a1,a2,a3,a4,_)=>i (show q7 from⟨a0,a1,a2,a3,a4⟩),λx y h=>by cases h;rfl⟩,
  ⟨228,j,[.str,.int .i64],λ(x:qk)=>(x.N_,x.w_,()),λ(a0,a1,_)=>i (show qk from⟨a0,a1⟩),λx y h=>by cases h;rfl⟩,
  ⟨231,j,[.int .i64,.int .i64,.int .i64],λ(x:qq)=>(x.X_,x.Y_,x.C_,()),λ(a0,a1,a2,_)=>i (show qq from⟨a0,a1,a2⟩),λx y h=>by cases h;rfl⟩,
  ⟨171,j,[.str,.int .i64,.int .i64,.sl 228,.sl 231],λ(x:qc)=>(x.N_,x.S_,x.o_,x.q_,x.I_,()),λ(a0,a1,a2,a3,a4,_)=>i (show qc from⟨a0,a1,a2,a3,a4⟩),λx y h=>by cases h;rfl⟩,
  ⟨3,d,[.int .i64],λ(x:Int)=>(x,()),λ(a0,_)=>i (show Int from a0),λx y h=>by cases h;rfl⟩,
  ⟨175,j,[.str,.int .i64,.int .i64],λ(x:qh)=>(x.N_,x.M_,x.t_,()),λ(a0,a1,a2,_)=>i (show qh from⟨a0,a1,a2⟩),λx y h=>by cases h;rfl⟩,
  ⟨177,j,[.str,.sl 175,.str,.int .i64,.int .i64],λ(x:qg)=>(x.N_,x.P_,x.R_.N_,x.R_.M_,x.R_.t_,()),λ(a0,a1,a2,a3,a4,_)=>i (show qg from⟨a0,a1,⟨a2,a3,a4⟩⟩),λx y h=>by cases h;rfl⟩,
  ⟨30,j,[.sl 35,.sl 80,.sl 49,.sl 86,.sl 171,.sl 177],λ(x:qw)=>(x.J_,x.E_,x.s_,x.r_,x.U_,x.G_,()),λ(a0,a1,a2,a3,a4,a5,_)=>i (show qw from⟨a0,a1,a2,a3,a4,a5⟩),λx y h=>by cases h;rfl⟩,
  ⟨53,j,[.str,.int .i64,.sl 47],λ(x:qb)=>(x.N_,x.P_,x.V_,()),λ(a0,a1,a2,_)=>i (show qb from⟨a0,a1,a2⟩),λx y h=>by cases h;rfl⟩,
  ⟨68,j,[.str,.int .i64],λ(x:qt)=>(x.N_,x.n_,()),λ(a0,a1,_)=>i (show qt from⟨a0,a1⟩),λx y h=>by cases h;rfl⟩,
  ⟨71,j,[.int .i64,.int .i64,.str,.str,.str,.int .i64,.str,.int .i64,.sl 68,.int .i64,.bool],λ(x:qi)=>(x.O_,x.a_,x.X_,x.Y_,x.A_.N_,x.A_.n_,x.B_.N_,x.B_.n_,x.Q_,x.g_,x.h_,()),λ(a0,a1,a2,a3,a4,a5,a6,a7,a8,a9,a10,_)=>i (show qi from⟨a0,a1,a2,a3,⟨a4,a5⟩,⟨a6,a7⟩,a8,a9,a10⟩),λx y h=>by cases h;rfl⟩,
  ⟨61,j,[.str,.sl 9,.sl 71],λ(x:q1e)=>(x.N_,x.P_,x.L_,()),λ(a0,a1,a2,_)=>i (show q1e from⟨a0,a1,a2⟩),λx y h=>by cases h;rfl⟩,
  ⟨123,j,[.sl 35,.sl 80,.sl 49,.sl 86,.sl 171,.sl 177],λ(x:q10)=>(x.J_,x.E_,x.s_,x.r_,x.U_,x.G_,()),λ(a0,a1,a2,a3,a4,a5,_)=>i (show q10 from⟨a0,a1,a2,a3,a4,a5⟩),λx y h=>by cases h;rfl⟩,
  ⟨137,j,[.str,.int .i64,.sl 175],λ(x:qe)=>(x.N_,x.P_,x.V_,()),λ(a0,a1,a2,_)=>i (show qe from⟨a0,a1,a2⟩),λx y h=>by cases h;rfl⟩,
  ⟨250,j,[.str,.int .i64],λ(x:ql)=>(x.N_,x.n_,()),λ(a0,a1,_)=>i (show ql from⟨a0,a1⟩),λx y h=>by cases h;rfl⟩,
  ⟨253,j,[.int .i64,.int .i64,.str,.str,.str,.int .i64,.str,.int .i64,.sl 250,.int .i64,.bool],λ(x:qm)=>(x.O_,x.a_,x.X_,x.Y_,x.A_.N_,x.A_.n_,x.B_.N_,x.B_.n_,x.Q_,x.g_,x.h_,()),λ(a0,a1,a2,a3,a4,a5,a6,a7,a8,a9,a10,_)=>i (show qm from⟨a0,a1,a2,a3,⟨a4,a5⟩,⟨a6,a7⟩,a8,a9,a10⟩),λx y h=>by cases h;rfl⟩,
  ⟨134,j,[.str,.sl 9,.sl 253],λ(x:q19)=>(x.N_,x.P_,x.L_,()),λ(a0,a1,a2,_)=>i (show q19 from⟨a0,a1,a2⟩),λx y h=>by cases h;rfl⟩,
  ⟨128,j,[.sl 53,.sl 61,.sl 137,.sl 134],λ(x:q1k)=>(x.J_,x.H_,x.r_,x.j_,()),λ(a0,a1,a2,a3,_)=>i (show q1k from⟨a0,a1,a2,a3⟩),λx y h=>by cases h;rfl⟩,
  ⟨63,j,[.str,.sl 9,.sl 71,.str,.int .i64,.sl 47,.sl 49,.sl 53,.sl 80],λ(x:qj)=>(x.c_.N_,x.c_.P_,x.c_.L_,x.f_.N_,x.f_.P_,x.f_.V_,x.z_,x.F_,x.Z_,()),λ(a0,a1,a2,a3,a4,a5,a6,a7,a8,_)=>i (show qj from⟨⟨a0,a1,a2⟩,⟨a3,a4,a5⟩,a6,a7,a8⟩),λx y h=>by cases h;rfl⟩,
  ⟨139,j,[.str,.sl 9,.sl 253,.str,.int .i64,.sl 175,.sl 177,.sl 137,.sl 171],λ(x:qy)=>(x.c_.N_,x.c_.P_,x.c_.L_,x.f_.N_,x.f_.P_,x.f_.V_,x.z_,x.F_,x.Z_,()),λ(a0,a1,a2,a3,a4,a5,a6,a7,a8,_)=>i (show qy from⟨⟨a0,a1,a2⟩,⟨a3,a4,a5⟩,a6,a7,a8⟩),λx y h=>by cases h;rfl⟩,
  ⟨131,d,[.pz 139],λ(x:qy)=>(x,()),λ(a0,_)=>i (show qy from a0),λx y h=>by cases h;rfl⟩]
def CC:Cod:=zAf DD ET GLk glm (zjU zn4 zn5) (mps:=zzV zn4 zn5) (mpi:=zzW zn4 zn5) (nst:=λt=>bif o t 137 then 2 else bif o t 53 then 2 else 0) (own:=λt=>o t 137 || o t 53 || false) (bz:=λt=>o t 139 || false)
def od:List Nat->List (Nat×Bool):=List.map λn=>(n / 2,o (n % 2) 1)
def spA(b:Bool)(Γ:List (Spec CC))(f nr:Nat)(fn:Func)(I:Sig)(O:List (XK×Sig))(H:Nat->Us Hint):Spec CC:=⟨f,nr,I,O,λx=>XY ⟨b⟩ Γ lpO prog fn nr I O H x⟩
theorem kA {b : Bool} {Γ : List (Spec CC)} {f nr : Nat} {fn : Func} {I : Sig} {O : List (XK × Sig)} {H : Nat -> Us Hint} (h : ∀ s ∈ Γ, s.OK prog) (e : (Tryz.prog.funcs[f]?, (fn.name == "runtime.NumGoroutine"), fn.body.isNone) = (i fn, d, d)) : (spA b Γ f nr fn I O H).OK prog :=
  yE h ZG ZF H (Prod.mk.inj e).1 (Prod.mk.inj (Prod.mk.inj e).2).1 (Prod.mk.inj (Prod.mk.inj e).2).2 λx=>rfl
abbrev ii:Sh :=.int .i64
abbrev c0:ESh :=.cell [.sl 49,.sl 80,.row 1,ii,.pr 1 53 0]
abbrev c1:ESh :=.cell [ii,.str,ii,ii,.nils]
abbrev c2:ESh :=.cell [.val 101]
abbrev c3:ESh :=.cell [.row 1,ii,ii,ii,ii]
abbrev c4:ESh :=.cell [.sl 177,.sl 171,.row 1,ii,ii]
abbrev c5:ESh :=.cell [.val 35]
abbrev c6:ESh :=.cell [ii,ii,.str,.str,.str,ii,.str,ii,.nils,ii,.bool]
abbrev c7:ESh :=.cell [.val 86]
abbrev c8:ESh :=.cell [.val 47]
abbrev c9:ESh :=.cell [ii,.str,ii,ii,.row 4]
abbrev c10:ESh :=.cell [.str,ii,ii,.nils,.nils]
abbrev c11:ESh :=.cell [ii]
abbrev c12:ESh :=.cell [.val 175]
abbrev c13:ESh :=.cell [ii,ii,.str,.str,.str,ii,.str,ii,.row 2,ii,.bool]
abbrev c14:ESh :=.cell [ii,ii,.str,.str,.str,ii,.str,ii,.row 3,ii,.bool]
abbrev c15:ESh :=.cell [.sl 49,.sl 80,.row 1,ii,.pnil]
abbrev c16:ESh :=.cell [.str,ii,ii,.row 1,.row 2]
abbrev c17:ESh :=.cell [.str,.nils,.str,ii,ii]
abbrev c18:ESh :=.cell [ii,.str,ii,ii,.row 3]
abbrev c19:ESh :=.cell [.nils,.nils,.nils,.nils,.nils,.nils]
abbrev c20:ESh :=.cell [.val 71]
abbrev c21:ESh :=.cell [.val 163]
abbrev c22:ESh :=.cell [.val 63]
abbrev c23:ESh :=.cell [.str]
abbrev c24:ESh :=.cell [.row 1]
abbrev c25:ESh :=.cell [.str,ii,.nils]
abbrev c26:ESh :=.cell [.str,ii,ii,.row 2,.nils]
abbrev c27:ESh :=.cell [.sl 177,.sl 171,.row 2,ii,ii]
abbrev c28:ESh :=.cell [.nils]
abbrev c29:ESh :=.cell [.row 5,.sl 80,.row 1,.row 6,.sl 171,.row 3]
abbrev c30:ESh :=.cell [.str,ii,ii,.row 6,.nils]
abbrev c31:ESh :=.cell [.str,ii,ii,.row 2,.row 3]
abbrev c32:ESh :=.cell [.str,ii,ii,.row 6,.row 7]
abbrev c33:ESh :=.cell [.str,ii,ii,.row 5,.nils]
abbrev c34:ESh :=.cell [.str,.row 3,.str,ii,ii]
abbrev c36:ESh :=.cell [.sl 49,.sl 80,.row 5,ii,.pnil]
abbrev c37:ESh :=.cell [.str,.row 3,.nils]
abbrev c38:ESh :=.cell [ii,.str,ii,ii,.row 2]
abbrev c39:ESh :=.cell [.str,.nils,.nils]
abbrev c40:ESh :=.cell [.row 4]
abbrev c41:ESh :=.cell [.row 3,ii,ii,ii,ii]
abbrev c42:ESh :=.cell [.val 104]
abbrev c43:ESh :=.cell [.str,ii,ii,.row 7,.nils]
abbrev c44:ESh :=.cell [.str,.row 4,.str,ii,ii]
abbrev c45:ESh :=.cell [.str,.row 5,.str,ii,ii]
abbrev c46:ESh :=.cell [.nils,.nils,.nils,.nils]
abbrev c47:ESh :=.cell [.row 2]
abbrev c48:ESh :=.cell [.str,ii,.row 5]
abbrev c49:ESh :=.cell [.str,ii,.row 1]
abbrev c50:ESh :=.cell [.str,ii,ii,.row 4,.nils]
abbrev c51:ESh :=.cell [.row 3]
abbrev c52:ESh :=.cell [ii,.str,ii,ii,.row 5]
abbrev c53:ESh :=.cell [.str,ii,.row 7]
abbrev c54:ESh :=.cell [.val 123]
abbrev c56:ESh :=.cell [.str,ii,.row 6]
abbrev c57:ESh :=.cell [ii,ii]
abbrev G9:=XK×Sig
abbrev GA:=List (XK×Sig)
abbrev GB:=List ESh
abbrev GC:=List (Nat×Sh)
def Ja:G9:=(.pan (.ifc 97 (.agg [ii,ii])),⟨[],[c2]⟩)
def Jb:GA:=[(.normal,⟨[(4,.bool)],[]⟩)]
def J0:GB:=[c0,.forow 53]
def Jc:G9:=(.pan (.ifc 112 (.agg [ii,ii])),⟨[],J0⟩)
def HO:Sig:=⟨[],[c0,.orow 53]⟩
def JH:G9:=(.pan (.ifc 112 (.agg [ii,ii])),HO)
def JT:Sig:=⟨[(0,.pc 0 0),(4,.pc 2 0),(11,.sl 35),(12,ii),(13,ii)],[c0,.orow 53,c8]⟩
def Jd:GA:=[JH,(.normal,JT)]
def Je:G9:=(.normal,⟨[(0,.pc 0 0),(2,.pc 1 0),(3,.pc 2 0)],[c2,c1,c1]⟩)
def Jf:GA:=[(.ret,⟨[(0,.agg [ii,.str,ii,ii,.row 2])],[c3,.row 163,.row 86]⟩)]
def Jz:GB:=[c3,.row 163,c1,c9,.row 86]
def Jg:G9:=(.normal,⟨[(0,.pc 0 0),(2,.pc 2 0),(5,.pc 3 0)],Jz⟩)
def Jh:G9:=(.pan (.ifc 112 (.agg [ii,ii])),⟨[(6,.pc 1 0),(7,.pc 2 0),(8,.pc 3 0)],[c5,c28,c11,c11]⟩)
def Ji:G9:=(.ret,⟨[(0,.agg [ii,.str,ii,ii,.row 1])],[c2,.row 35]⟩)
def Jj:GA:=[(.ret,⟨[(0,.bool)],[]⟩)]
def KY:GB:=[c16,.row 214,.row 275]
def Jk:G9:=(.pan (.ifc 151 (.agg [ii,ii])),⟨[],KY⟩)
def Jl:Sig:=⟨[(0,.pc 0 0)],[c3,.row 163]⟩
def Jm:G9:=(.normal,⟨[(0,.pc 0 0),(4,.pc 2 0)],[c24,.row 71,c14,.row 68]⟩)
def Gl:GB:=[c18,c11,c11,.row 35]
def Hh:Sig:=⟨[(2,.pc 0 0),(3,.pc 1 0),(4,.pc 2 0)],Gl⟩
def Jn:GA:=[(.pan (.ifc 97 (.agg [ii,ii])),Hh),(.normal,⟨[(2,.pc 0 0),(3,.pc 1 0),(4,.pc 2 0),(6,.pc 3 0)],[c9,c11,c11,c2,.row 35]⟩)]
def Jo:G9:=(.normal,⟨[(0,.pc 0 0),(2,.pc 1 0)],[c2,c1]⟩)
def Jp:G9:=(.ret,⟨[(4,.pc 1 0),(5,ii),(6,ii)],[.row 171,c26,.row 228]⟩)
def Jq:GA:=[(.normal,⟨[(29,.bool)],[]⟩)]
def Jr:GA:=[(.normal,⟨[(2,.pc 0 0),(4,.pc 1 0)],[c6,c13,.row 250]⟩)]
def Js:Sig:=⟨[(2,.pc 1 0)],[c2,c5]⟩
def G6:GB:=[c22,.obj 0 72,.row 63,.row 3]
def Jt:Sig:=⟨[(9,.pc 0 0),(11,ii),(12,.bool),(15,.row 1),(35,.row 2),(36,ii),(37,ii),(48,.sl 71),(49,ii),(50,ii),(74,.row 3),(75,ii),(76,ii)],G6⟩
def HS:GB:=[c15,.forow 53]
def Ju:G9:=(.pan (.ifc 112 (.agg [ii,ii])),⟨[],HS⟩)
def Jv:GA:=[(.normal,⟨[(2,.pc 0 0),(3,.pc 1 0)],[c6,c13,.row 250]⟩)]
def Jw:Sig:=⟨[(0,.pc 0 0)],[c2]⟩
def Ke:GB:=[c4,.orow 137]
def Jx:GA:=[(.ret,⟨[(6,ii)],Ke⟩),(.normal,⟨[],Ke⟩)]
def Jy:GA:=[(.ret,⟨[(0,ii)],[]⟩)]
def J1:GA:=[(.normal,⟨[(0,.pc 0 0),(6,.pc 2 0)],[c24,.row 71,c14,.row 68]⟩)]
def J2:Sig:=⟨[(4,.pc 0 0),(5,.pc 1 0),(7,.pc 2 0),(12,.pc 3 0),(15,.row 4),(17,ii),(18,.pc 5 0),(19,.pc 6 0),(70,.sl 35),(71,ii),(72,ii)],[c19,c46,c54,c7,.orow 53,.cell [.sl 177,.sl 171,.row 7,ii,ii],.cell [.row 4,.row 8,.row 7,.row 9],.orow 137,.row 61,.row 134]⟩
def J3:G9:=(.ret,⟨[(4,.pc 0 0),(5,ii),(6,ii)],[c17]⟩)
def J4:Sig:=⟨[(3,.pc 0 0),(6,.pc 1 0),(7,.pc 2 0),(8,.pc 3 0),(9,.pc 4 0),(20,.sl 35),(21,ii),(22,ii)],[c5,c28,c11,c11,c36,.orow 53]⟩
def J5:Sig:=⟨[(0,.str),(1,ii),(4,.pc 0 0),(6,.pc 1 0),(7,ii),(13,ii),(14,.bool)],[c21,c21]⟩
def Gw:GB:=[c3,.row 163,c1,c1]
def J6:Sig:=⟨[(0,.pc 0 0),(2,.pc 2 0),(3,.pc 3 0)],Gw⟩
def J7:G9:=(.pan (.ifc 151 (.agg [ii,ii])),⟨[],[]⟩)
def KX:GB:=[c4,.forow 137,c12,c12]
def J8:GA:=[(.ret,⟨[(6,.pc 2 0),(7,ii)],[c4,.forow 137,c12]⟩),(.normal,⟨[(6,.pc 2 0),(8,.pc 3 0)],KX⟩)]
def J9:GA:=[(.normal,⟨[(1,.sl 171),(2,.pc 0 0),(4,.pc 1 0),(6,.pc 2 0)],[c7,c12,c12]⟩)]
def G7:GB:=[c16,.row 214,.row 275,c5,c57]
def JA:Sig:=⟨[(0,.pc 0 0),(2,.sl 35),(4,.pc 3 0),(6,.pc 4 0),(11,.sl 35),(12,ii),(13,ii)],G7⟩
def JB:G9:=(.normal,⟨[(4,.pc 1 0),(7,.row 2),(8,.row 3),(10,.pc 4 0),(16,ii)],[.row 171,c10,.row 86,.row 86,c33,.row 228]⟩)
def JC:G9:=(.normal,⟨[(0,.str),(5,.row 0),(6,ii),(7,.pc 1 0),(8,ii)],[.row 104,c42]⟩)
def JD:Sig:=⟨[(9,.pc 0 0),(11,ii),(12,.bool),(35,.row 1),(36,ii),(37,ii),(48,.sl 71),(49,ii),(50,ii)],[c22,.row 63]⟩
def JE:Sig:=⟨[(2,.pc 0 0),(8,.pc 1 0),(9,.pc 2 0)],[c1,c41,c9,.row 163,.row 86]⟩
def JF:GB:=[.row 171,c10,.row 86,.row 86,c7,c30,.row 228]
def Gq:GB:=[c0,.forow 53,c8,c8]
def JG:G9:=(.normal,⟨[(0,.pc 0 0),(4,.pc 2 0),(5,.pc 3 0)],Gq⟩)
def Hc:Sig:=⟨[(2,.pc 1 0),(3,.pc 2 0),(4,.pc 3 0)],[c5,c40,c11,c11,.row 80]⟩
def JI:GA:=[(.pan (.ifc 151 (.agg [ii,ii])),Hc),(.normal,⟨[(2,.pc 1 0),(3,.pc 2 0),(4,.pc 3 0),(9,.sl 35),(10,ii),(11,ii)],[c5,c40,c11,c11,.row 80]⟩)]
def JJ:Sig:=⟨[(2,.pc 0 0),(3,.pc 1 0),(4,.pc 2 0),(17,.sl 35),(18,ii),(19,ii)],[c39,c37,c40,.row 9,.row 71]⟩
def JK:G9:=(.ret,⟨[(2,.nils),(3,ii),(4,ii)],[]⟩)
def JL:GC:=[(0,.pc 0 0),(1,.val 35)]
def JM:GB:=[.row 171,c10,.row 86,.row 86,c32,.row 3,.row 228,.row 231]
def JN:Sig:=⟨[(2,.pc 0 0),(9,ii),(10,.row 1),(12,ii),(13,.pc 2 0),(19,.row 3),(22,.pc 4 0),(72,.sl 35),(73,ii),(74,ii)],[c19,.row 49,c7,.row 177,c29,.row 35,.row 86]⟩
def JO:Sig:=⟨[(0,.sl 80),(3,.pc 0 0),(4,.pc 1 0),(5,.sl 35),(6,.row 2),(7,.pc 3 0),(9,.pc 4 0),(10,ii),(33,.sl 35),(34,ii),(35,ii)],[c5,c10,.row 35,c33,c5,.row 214]⟩
def JP:GA:=[(.normal,⟨[(1,.pc 0 0),(3,.nils),(8,.bool)],[c20]⟩)]
def JQ:Sig:=⟨[],[c47,.gone,.row 71]⟩
def JR:Sig:=⟨[(6,.pc 1 0),(7,.pc 2 0),(8,.pc 3 0),(9,.pc 4 0),(46,.sl 35),(47,ii),(48,ii)],[c5,c28,c11,c11,.cell [.sl 49,.sl 80,.row 5,ii,.pr 5 53 0],.orow 53]⟩
def JS:Sig:=⟨[(4,.pc 1 0),(7,.row 2),(8,.row 3),(10,.pc 4 0),(16,ii),(17,ii)],[.row 171,c10,.row 86,.row 86,.cell [.str,ii,ii,.row 5,.row 6],.row 228,.row 231]⟩
def JU:GA:=[(.ret,⟨[(0,.val 86)],[c3,.row 163]⟩)]
def JV:Sig:=⟨[(0,.str)],[]⟩
def JW:GA:=[(.ret,⟨[(4,ii)],[c23]⟩),(.exit 0,⟨[],[c23]⟩)]
def JX:Sig:=⟨[(0,.pc 0 0),(1,ii)],[c2]⟩
def JY:GC:=[(0,.str),(5,.row 0),(6,ii)]
def JZ:Sig:=⟨[(2,.row 0),(3,.row 1),(7,.sl 35),(8,ii),(9,ii)],[.row 35,.row 35]⟩
def Ka:GA:=[(.normal,⟨[(2,.bool)],[]⟩)]
def Kb:GB:=[c2,c1,c18,.row 35]
def Kc:G9:=(.ret,⟨[(4,.bool)],[]⟩)
def Kd:Sig:=⟨[(0,.val 35)],[]⟩
def Kf:Sig:=⟨[(0,.sl 80),(3,.pc 0 0),(4,.pc 1 0),(5,.sl 35),(6,.row 2),(7,.pc 3 0),(33,.sl 35),(34,ii),(35,ii)],[c5,c10,.row 35,c50,.row 214]⟩
def Kg:GC:=[(1,ii),(2,.pc 0 0),(5,.row 1),(6,ii)]
def Kh:G9:=(.ret,⟨[(4,.pc 1 0),(5,ii),(6,ii)],[.row 171,c31,.row 228,.row 231]⟩)
def Ki:G9:=(.ret,⟨[(0,.val 35)],[c2]⟩)
def Kj:G9:=(.ret,⟨[(0,.row 1)],[c2,.row 35]⟩)
def Kk:GB:=[.row 171,c10,.row 86,.row 86,c7,c43,c7,.row 228]
def Kl:GC:=[(0,.row 0),(1,ii),(2,ii)]
def Km:Sig:=⟨[(1,.sl 80),(2,.pc 0 0),(4,.pc 1 0),(7,.pc 2 0),(8,ii),(11,.pc 3 0),(29,.sl 35),(30,ii),(31,ii)],[c5,c17,c44,c8,.row 47]⟩
def Kn:GC:=[(0,.pc 0 0),(1,.str)]
def Ko:Sig:=⟨[(0,.pc 0 0),(3,.pc 2 0),(4,.pc 3 0),(5,ii),(6,.pc 4 0),(27,.sl 35),(28,ii),(29,ii)],[c15,.forow 53,c5,c25,c48,.row 47]⟩
def Kq:GA:=[(.normal,⟨[(0,.pc 0 0),(3,.pc 2 0),(4,.pc 3 0),(5,ii),(6,.pc 4 0),(7,ii),(11,.pc 5 0)],[c4,.forow 137,c7,c25,c56,c12,.row 175]⟩)]
def Kr:G9:=(.ret,⟨[(4,.pc 2 0)],[c0,.forow 53,c8]⟩)
def Ks:Sig:=⟨[(0,.pc 0 0),(1,.pr 1 137 0),(2,.sl 86),(6,ii)],Ke⟩
def Kt:GA:=[(.ret,⟨[(0,.bool)],[c23]⟩)]
def Ku:G9:=(.ret,⟨[(4,.nils),(5,ii),(6,ii)],[]⟩)
def Kv:G9:=(.exit 0,⟨[(5,.row 1)],[c2,.row 35]⟩)
def Kx:Sig:=⟨[(0,.str),(1,.str)],[]⟩
def Ky:Sig:=⟨[(0,.int .u8)],[]⟩
def Kz:G9:=(.normal,⟨[(0,.pc 0 0),(4,.pc 1 0),(5,.pc 2 0)],Kb⟩)
def KC:Sig:=⟨[(0,.val 86)],[]⟩
def KD:GA:=[(.ret,⟨[(4,ii)],[c20]⟩),(.exit 0,⟨[],[c20]⟩)]
def KE:Sig:=⟨[(4,.pc 1 0),(7,.row 2),(8,.row 3),(10,.pc 4 0),(16,ii),(17,ii),(18,.row 5),(19,ii)],JM⟩
def KF:GA:=[(.ret,⟨[(0,ii)],[.forow 137]⟩)]
def KG:Sig:=⟨[(1,.sl 171),(2,.pc 0 0),(4,.pc 1 0),(7,.pc 2 0),(8,ii),(9,ii)],[c7,c17,c34,.row 175]⟩
def KH:Sig:=⟨[(0,.pc 0 0),(4,.pc 2 0),(5,.pc 3 0)],Jz⟩
def KI:GB:=[c4,.forow 137]
def KJ:GA:=[(.normal,⟨[(2,.pc 0 0),(3,.pc 1 0)],[c6,c6]⟩)]
def KK:Sig:=⟨[(2,.pc 0 0),(9,.pc 1 0),(11,.row 2),(48,.sl 47),(49,ii),(50,ii)],[c22,c20,.row 3]⟩
def KL:Sig:=⟨[(0,.row 0),(4,.pc 1 0),(7,.row 2),(8,.row 3),(9,.pc 4 0),(10,.pc 5 0),(12,ii)],JF⟩
def KM:G9:=(.ret,⟨[(6,ii)],[.forow 137]⟩)
def KO:GA:=[(.ret,⟨[(4,ii)],[]⟩),(.exit 0,⟨[],[]⟩)]
def KP:Sig:=⟨[(0,.val 63),(1,ii)],[]⟩
def KQ:GC:=[(0,.pc 0 0),(1,.pc 1 0),(2,.pc 2 0),(3,.nili)]
def KR:Sig:=⟨[(0,.pc 0 0),(1,ii)],[c3,.row 163]⟩
def KT:Sig:=⟨[(0,.agg [ii,ii,.str,.str,.str,ii,.str,ii,.row 0,ii,.bool])],[.row 250]⟩
def KU:Sig:=⟨[(0,.pc 0 0),(2,.pc 1 0),(3,.pc 2 0),(69,.pc 3 0)],[c2,c1,c1,.cell []]⟩
def KV:Sig:=⟨[(1,.pc 0 0),(4,.clo 38 [.pc 0 0]),(11,.sl 71),(12,ii),(13,ii)],[c22]⟩
def KW:G9:=(.normal,⟨[(2,.pc 1 0),(3,.pc 2 0)],Kb⟩)
def KZ:G9:=(.ret,⟨[(2,.pc 1 0)],[c2,c38,.row 35]⟩)
def Ha:GA:=[(.ret,⟨[(0,ii)],[c23]⟩)]
def Hb:GA:=[(.normal,⟨[(0,.str),(1,ii),(2,ii),(3,ii),(4,ii),(11,.row 0)],[.row 231]⟩)]
def He:GB:=[c7,c27,.orow 137]
def Hf:Sig:=⟨[(1,.sl 80),(7,.row 0),(14,.sl 35),(15,ii),(16,ii)],[.row 49]⟩
def Hg:GA:=[(.normal,⟨[(0,.pc 0 0),(2,.pc 1 0),(3,.pc 2 0),(18,.bool)],[c2,c1,c1]⟩)]
def Hi:Sig:=⟨[(0,.val 86),(1,.sl 171)],[]⟩
def Hj:Sig:=⟨[(0,.str),(1,ii),(4,.pc 0 0),(6,.pc 1 0),(7,ii)],[c21,c21]⟩
def Hk:Sig:=⟨[(3,.row 0),(26,.row 1),(27,ii),(28,ii)],[.row 9,.row 68]⟩
def Hl:Sig:=⟨[(1,.sl 171),(2,.pc 0 0),(7,.row 1),(8,ii)],[c7,.row 177]⟩
def Hm:Sig:=⟨[(0,.val 35),(1,.sl 80)],[]⟩
def Hn:Sig:=⟨[(0,.str),(1,ii),(2,ii)],[]⟩
def Ho:Sig:=⟨[],[c3,.row 163]⟩
def Hp:GC:=[(0,.val 47),(1,.pc 0 0)]
def Hq:GA:=[(.ret,⟨[(4,ii)],[.row 47,c8]⟩),(.exit 0,⟨[],[.row 47,c8]⟩)]
def Hs:Sig:=⟨[(0,.pc 0 0),(4,.pc 2 0),(5,.pc 3 0),(7,.bool)],Jz⟩
def Ht:Sig:=⟨[(0,.pc 0 0),(4,.pc 2 0),(5,.pc 3 0),(6,.bool)],Jz⟩
def Hu:Sig:=⟨[(0,.row 0),(1,.clo 103 [.pc 1 0])],[.row 47,c8]⟩
def Hv:Sig:=⟨[(0,.row 0),(1,.clo 101 [.pc 1 0])],[.row 47,c8]⟩
def Hw:Sig:=⟨[(0,.pc 0 0),(3,.pc 1 0),(4,.pc 2 0)],[c2,c5,c1]⟩
def Hx:G9:=(.ret,⟨[],J0⟩)
def Hy:GB:=[c5,c28,c11,c11,.cell [.sl 49,.sl 80,.row 5,ii,.und],.orow 53]
def Hz:Sig:=⟨[(1,.pc 0 0),(5,.row 1),(6,ii)],[c7,.row 171]⟩
def H0:GC:=[(0,.agg [ii,.str,ii,ii,.nils])]
def H3:GA:=[(.ret,⟨[(10,.row 0)],[.row 275]⟩),(.normal,⟨[],[]⟩)]
def H4:GA:=[(.ret,⟨[(0,.bool)],[c20]⟩)]
def H5:Sig:=⟨[(0,.pc 0 0),(1,.pr 1 137 0),(2,.val 86)],KI⟩
def H6:G9:=(.exit 0,⟨[],[.forow 137]⟩)
def H7:Sig:=⟨[(0,.str),(1,ii),(2,ii),(3,ii),(4,ii)],[]⟩
def H8:Sig:=⟨[(0,.sl 35),(1,.clo 136 [.pc 0 0])],[c23]⟩
def H9:G9:=(.normal,⟨[],J0⟩)
def HA:Sig:=⟨[(0,.sl 47),(1,.clo 38 [.pc 0 0])],[c22]⟩
def HB:Sig:=⟨[(0,.pc 0 0),(2,.pc 2 0),(3,.pc 3 0)],Jz⟩
def HC:Sig:=⟨[(0,.pc 0 0),(2,.pc 1 0),(3,.pc 2 0)],Kb⟩
def HD:GC:=[(0,.pc 0 0),(3,.pc 2 0),(4,.pc 3 0),(5,ii),(6,.pc 4 0)]
def HE:Sig:=⟨[(35,.row 0),(36,ii),(37,ii)],[.row 63]⟩
def HF:Sig:=⟨[(2,.pc 2 0)],[c3,.row 163,c18,.row 86]⟩
def HG:Sig:=⟨[(0,.pr 0 137 0),(1,.str)],[.forow 137]⟩
def HH:GA:=[(.ret,⟨[(0,ii)],[c20]⟩)]
def HI:GA:=[(.exit 0,⟨[(1,ii)],[]⟩)]
def HJ:G9:=(.ret,⟨[(0,.val 47)],J0⟩)
def HK:GB:=[c7,c17,c45,c7,c12,.row 175]
def HL:Sig:=⟨[(3,.pc 1 0),(4,.pc 2 0)],[c2,c5,c1]⟩
def HM:Sig:=⟨[(3,.pc 0 0),(7,.pc 1 0),(10,ii)],He⟩
def HN:GA:=[(.ret,⟨[(4,.sl 47)],[]⟩),(.normal,⟨[],[]⟩)]
def HP:Sig:=⟨[(0,.str),(1,ii),(2,.clo 64 [])],[]⟩
def HQ:Sig:=⟨[(0,.str),(1,ii),(2,.clo 60 [])],[]⟩
def HR:Sig:=⟨[(0,.str),(1,ii),(2,.clo 59 [])],[]⟩
def HT:GC:=[(0,.pc 0 0),(1,ii),(2,ii)]
def HU:GC:=[(0,.pc 0 0),(4,.pc 2 0),(5,.pc 3 0),(10,.pc 4 0)]
def HV:Sig:=⟨[(0,.val 53),(1,.pc 0 0)],[c20]⟩
def HW:Sig:=⟨[(0,.val 35),(1,.pc 0 0)],[c23]⟩
def HX:GB:=[.forow 53,c5]
def HY:GC:=[(4,.pc 0 0),(6,.pc 1 0)]
def HZ:Sig:=⟨[(4,.pc 1 0)],[c2,c38,.row 35]⟩
def Ga:GB:=[c51,c11,c11,.forow 53]
def Gb:GB:=[c0,.forow 53,c5,c8,c8]
def Gc:Sig:=⟨[(4,.pc 0 0),(5,ii)],[c21]⟩
def Gd:GB:=[c4,.forow 137,c7,c25,c53,c7,c12,.row 175]
def Ge:GC:=[(0,.pc 0 0),(1,.val 35),(2,.bool),(3,ii)]
def Gf:Sig:=⟨[(0,.bool)],[c3,.row 163]⟩
def Gg:Sig:=⟨[(0,.val 175),(1,ii)],KI⟩
def Gh:Sig:=⟨[(0,.val 104),(1,ii)],[]⟩
def Gi:Sig:=⟨[(0,.bool)],[.row 47,c8]⟩
def Gj:Sig:=⟨[(0,.val 86),(1,ii)],[]⟩
def Gk:GB:=[c51,c11,c11,.row 80]
def Gm:Sig:=⟨[(5,.row 0)],[.row 3]⟩
def Gn:Sig:=⟨[(0,ii)],[.row 47,c8]⟩
def Gp:Sig:=⟨[(0,.row 0)],[.row 3]⟩
def Gs:Sig:=⟨[(0,.str),(1,ii)],[]⟩
def Gt:GA:=[(.normal,J6)]
def Gu:Sig:=⟨[(0,.val 104)],[c2]⟩
def Gv:GB:=[c4,.forow 137,c7,c25,c48,.row 175]
def Gx:GB:=[c24,.row 71,c5,c6]
def Gy:Sig:=⟨[(2,ii),(3,ii)],[]⟩
def Gz:Sig:=⟨[(0,.bool)],[c22]⟩
def G0:Sig:=⟨[(7,.pc 0 0)],Ke⟩
def G1:Sig:=⟨[(0,.val 68)],[]⟩
def G3:Sig:=⟨[(0,.bool)],[c8]⟩
def G4:Sig:=⟨[(0,.bool)],[c2]⟩
def G5:GB:=[c4,.orow 137,c7]
def G8:GA:=[(.exit 0,⟨[(3,ii)],[]⟩)]
def P0:=spA d [] 59 1 f59 Ky Jj (hfind [])
theorem K0:P0.OK prog:=kA ze (by kernel_rfl)
def P1:=spA d [P0] 58 1 f58 HR Jy (hfind [(4,.loop HR HI),(7,.cut [(.normal,⟨[(0,.str),(1,ii),(2,.clo 59 []),(17,.bool)],[]⟩)])])
theorem K1:P1.OK prog:=kA (za K0 ze) (by kernel_rfl)
def P2:=spA d [] 60 1 f60 Ky Jj (hfind [(3,.cut Ka)])
theorem K2:P2.OK prog:=kA ze (by kernel_rfl)
def P3:=spA d [P2] 58 1 f58 HQ Jy (hfind [(4,.loop HQ HI),(7,.cut [(.normal,⟨[(0,.str),(1,ii),(2,.clo 60 []),(17,.bool)],[]⟩)])])
theorem K3:P3.OK prog:=kA (za K2 ze) (by kernel_rfl)
def I4:Sig:=Hn
def O4:List (XK×Sig):=[(.ret,⟨[(0,ii),(1,.nili)],[]⟩),(.ret,⟨[(0,ii),(1,.ifc 285 (.und))],[]⟩)]
def F4(x:I4.ty CC):Us (zi CC O4):=X3 x
def P4:Spec CC:=⟨118,2,I4,O4,F4⟩
theorem K4:P4.OK prog:=ziv (fn:=f118) (by kernel_rfl) (by kernel_rfl) (by kernel_rfl) (λs hs v h w=>Tryz.strconv_ParseInt_10_at64_ok s hs v h w) (λs hs h w Z hg hw=>by
    obtain⟨⟨t,p,a⟩,_⟩:=hg
    refine(Tryz.strconv_ParseInt_10_at64_syntax s hs h _ w (hw 0 0 _ a) (.inr ⟨_,_,rfl⟩)).mono ?_
    rintro e w' ⟨N,rfl,_,_,hb⟩
    exact⟨_,rfl,hb⟩) (λs hs h w Z hg hw=>by
    obtain⟨_,t,p,a⟩:=hg
    refine(Tryz.strconv_ParseInt_10_at64_range s hs h _ w (hw 1 0 _ a) (.inr ⟨_,_,rfl⟩)).mono ?_
    rintro e w' ⟨N,rfl,_,_,hb⟩
    exact⟨_,rfl,hb⟩)
def P5:=spA d [] 62 1 f62 Ky Jj (hfind [(3,.cut Ka)])
theorem K5:P5.OK prog:=kA ze (by kernel_rfl)
def P6:=spA d [P4,P5] 61 2 f61 Hn [(.ret,Gh)] (hfind [(5,.cut [(.normal,⟨[(0,.str),(1,ii),(2,ii),(6,.pc 0 0),(8,.str),(9,ii),(10,.nili)],[c42]⟩),(.normal,⟨[(0,.str),(1,ii),(2,ii),(6,.pc 0 0),(8,.str),(9,ii),(10,.ifc 285 (.und))],[c42]⟩)])])
theorem K6:P6.OK prog:=kA (za K4 (za K5 ze)) (by kernel_rfl)
def P7:=spA d [P5,P2] 64 1 f64 Ky Jj (hfind [(3,.cut Ka)])
theorem K7:P7.OK prog:=kA (za K5 (za K2 ze)) (by kernel_rfl)
def P8:=spA d [P7] 58 1 f58 HP Jy (hfind [(4,.loop HP HI),(7,.cut [(.normal,⟨[(0,.str),(1,ii),(2,.clo 64 []),(17,.bool)],[]⟩)])])
theorem K8:P8.OK prog:=kA (za K7 ze) (by kernel_rfl)
def P9:=spA d [] 119 1 f119 JV Jj (hfind [(9,.cut Jb),(13,.cut Jb),(17,.cut Jb),(21,.cut Jb),(25,.cut Jb),(29,.cut Jb),(33,.cut Jb),(37,.cut Jb),(41,.cut Jb),(45,.cut Jb),(49,.cut Jb),(53,.cut Jb),(57,.cut Jb),(61,.cut Jb),(65,.cut Jb),(69,.cut Jb),(73,.cut Jb),(77,.cut Jb),(81,.cut Jb)])
theorem K9:P9.OK prog:=kA ze (by kernel_rfl)
def P10:=spA d [P9] 63 2 f63 Hn [(.ret,Gh)] (hfind [(15,.cut [(.normal,⟨[(6,.pc 0 0),(8,.pc 1 0)],[c42,c42]⟩)])])
theorem K10:P10.OK prog:=kA (za K9 ze) (by kernel_rfl)
def P11:=spA d [] 150 1 f150 Kx Jj (hfind [(3,.cut Jb)])
theorem K11:P11.OK prog:=kA ze (by kernel_rfl)
def P12:=spA d [P11] 120 1 f120 Kx Jj (hfind [])
theorem K12:P12.OK prog:=kA (za K11 ze) (by kernel_rfl)
def I13:Sig:=⟨[(0,.str),(1,.int .u8)],[]⟩
def O13:List (XK×Sig):=Jy
def F13(x:I13.ty CC):Us (zi CC O13):=wW x
def P13:Spec CC:=⟨121,1,I13,O13,F13⟩
theorem K13:P13.OK prog:=zg6 (fn:=f121) (by kernel_rfl) (by kernel_rfl) (by kernel_rfl) λs c w=>Tryz.strings_IndexByte s c w
def P14:=spA d [P12,P13] 65 1 f65 JV [(.ret,JV)] (hfind [(6,.loop ⟨[(0,.str),(5,.agg [.str,.str,.str]),(6,ii)],[]⟩ [(.ret,⟨[(2,.str)],[]⟩),(.exit 0,JV)])])
theorem K14:P14.OK prog:=kA (za K12 (za K13 ze)) (by kernel_rfl)
def P15:=spA d [P1,P2,P3,P6,P5,P8,P10,P14] 23 3 f23 JV [(.ret,⟨Kl,[.row 104]⟩)] (hfind [(2,.cut [(.ret,⟨[(2,.row 0),(3,ii),(4,ii)],[.row 104]⟩)]),(19,.loop ⟨JY,[.row 104]⟩ [JK,(.exit 0,⟨[(0,.str),(5,.row 0)],[.row 104]⟩)]),(26,.cut [(.normal,⟨JY,[.row 104]⟩),JK]),(36,.cut [(.normal,⟨[(0,.str),(5,.row 0),(6,ii),(7,.pc 1 0),(8,ii),(9,.int .u8),(29,.bool)],[.row 104,c42]⟩)]),(37,.cut [(.exit 1,⟨JY,[.row 104]⟩),JC]),(49,.cut [JC]),(53,.cut [JC]),(59,.cut [JC])])
theorem K15:P15.OK prog:=kA (za K1 (za K2 (za K3 (za K6 (za K5 (za K8 (za K10 (za K14 ze)))))))) (by kernel_rfl)
def P16:=spA d [] 25 1 f25 Jw [(.ret,Gu)] (hfind [])
theorem K16:P16.OK prog:=kA ze (by kernel_rfl)
def P17:=spA d [P16] 66 1 f66 ⟨Kn,[c2]⟩ [(.ret,G4)] (hfind [(5,.cut [(.normal,⟨[(4,.bool)],[c2]⟩)])])
theorem K17:P17.OK prog:=kA (za K16 ze) (by kernel_rfl)
def P18:=spA d [P17] 26 1 f26 ⟨Kn,[c2]⟩ [(.ret,G4)] (hfind [])
theorem K18:P18.OK prog:=kA (za K17 ze) (by kernel_rfl)
def P19:=spA d [P16] 70 0 f70 JX [Ja] (hfind [])
theorem K19:P19.OK prog:=kA (za K16 ze) (by kernel_rfl)
def P20:=spA d [P16,P19] 122 1 f122 JX [Ja,(.ret,Gu)] (hfind [])
theorem K20:P20.OK prog:=kA (za K16 (za K19 ze)) (by kernel_rfl)
def P21:=spA d [P20] 67 1 f67 Jw [Ja,(.ret,⟨H0,[c2]⟩)] (hfind [])
theorem K21:P21.OK prog:=kA (za K20 ze) (by kernel_rfl)
def P22:=spA d [P18,P19] 28 0 f28 ⟨Kn,[c2]⟩ [Ja,(.ret,⟨[],[c2]⟩)] (hfind [])
theorem K22:P22.OK prog:=kA (za K18 (za K19 ze)) (by kernel_rfl)
def P23:=spA d [P16,P18,P22,P21] 71 1 f71 Jw [Ki,Ja] (hfind [(14,.cut [Je,Ja]),(20,.cut [Je])])
theorem K23:P23.OK prog:=kA (za K16 (za K18 (za K22 (za K21 ze)))) (by kernel_rfl)
def P24:=spA d [P21,P22,P23] 69 1 f69 Jw [Ja,Ji] (hfind [])
theorem K24:P24.OK prog:=kA (za K21 (za K22 (za K23 ze))) (by kernel_rfl)
def P25:=spA d [P24,P18] 68 1 f68 ⟨[(0,.pc 0 0),(1,.clo 69 [.tup [.pc 0 0]])],[c2]⟩ [Ja,Kj] (hfind [(6,.loop ⟨[(0,.pc 0 0),(1,.clo 69 [.tup [.pc 0 0]]),(5,.row 1)],[c2,.row 35]⟩ [Ja,Kv])])
theorem K25:P25.OK prog:=kA (za K24 (za K18 ze)) (by kernel_rfl)
def P26:=spA d [] 152 1 f152 ⟨[(0,.val 35),(1,.pc 0 0)],[c11]⟩ [(.ret,⟨[(0,.val 35)],[c11]⟩)] (hfind [])
theorem K26:P26.OK prog:=kA ze (by kernel_rfl)
def P27:=spA d [P22] 153 1 f153 ⟨JL,[c2]⟩ [Ja,Ki] (hfind [])
theorem K27:P27.OK prog:=kA (za K22 ze) (by kernel_rfl)
def P28:=spA d [P20] 158 1 f158 JX [Ja,(.ret,⟨[(0,ii)],[c2]⟩)] (hfind [])
theorem K28:P28.OK prog:=kA (za K20 ze) (by kernel_rfl)
def P29:=spA d [P21,P22,P28] 154 1 f154 JX [Ja,(.ret,⟨H0,[c2]⟩)] (hfind [])
theorem K29:P29.OK prog:=kA (za K21 (za K22 (za K28 ze))) (by kernel_rfl)
def P30:=spA d [P18,P28] 159 1 f159 ⟨JL,[c2]⟩ [Ja,Ki] (hfind [(6,.cut [Ja,(.normal,HL)]),(10,.cut [Ja,(.normal,HL)])])
theorem K30:P30.OK prog:=kA (za K18 (za K28 ze)) (by kernel_rfl)
def P31:=spA d [P16,P28,P18,P21,P30] 124 1 f124 Jw [Ja,Ki] (hfind [(8,.cut [Ja,(.ret,⟨[(2,.pc 1 0)],[c2,c1]⟩),Jo]),(20,.cut [Ja,(.normal,Js)])])
theorem K31:P31.OK prog:=kA (za K16 (za K28 (za K18 (za K21 (za K30 ze))))) (by kernel_rfl)
def P32:=spA d [P18,P19] 125 1 f125 Jw [(.ret,⟨[(0,.str)],[c2]⟩),Ja] (hfind [(6,.loop ⟨[(0,.pc 0 0),(5,.agg [.str,.str,.str]),(6,ii)],[c2]⟩ [(.ret,⟨[(2,.str)],[c2]⟩),(.exit 0,Jw)])])
theorem K32:P32.OK prog:=kA (za K18 (za K19 ze)) (by kernel_rfl)
def P33:=spA d [P31,P32] 75 1 f75 Jw [Ja,Ji] (hfind [(7,.draw (od [1,3,5,7,9,10,12,15,16]) [])])
theorem K33:P33.OK prog:=kA (za K31 (za K32 ze)) (by kernel_rfl)
def P34:=spA d [P31,P18] 68 1 f68 ⟨[(0,.pc 0 0),(1,.clo 124 [.tup [.pc 0 0]])],[c2]⟩ [Ja,Kj] (hfind [(6,.loop ⟨[(0,.pc 0 0),(1,.clo 124 [.tup [.pc 0 0]]),(5,.row 1)],[c2,.row 35]⟩ [Ja,Kv])])
theorem K34:P34.OK prog:=kA (za K31 (za K18 ze)) (by kernel_rfl)
def P35:=spA d [P22,P18,P34] 156 1 f156 Jw [Ja,Kj] (hfind [])
theorem K35:P35.OK prog:=kA (za K22 (za K18 (za K34 ze))) (by kernel_rfl)
def I36:Sig:=Jw
def O36:List (XK×Sig):=[Ja,Ki]
def H36:Nat->Us Hint:=hfind [(8,.cut [Ja,(.ret,Js),Je]),(16,.cut [Ja,(.ret,Js),Je]),(24,.cut [Ja,(.ret,Js),Je]),(30,.cut [Je]),(51,.cut [Ja,KZ,Je]),(59,.cut [Ja,KZ,Je]),(69,.cut [Ja,KZ,Je]),(70,.loop KU []),(83,.cut [(.normal,⟨[(0,.pc 0 0),(2,.pc 1 0),(3,.pc 2 0),(4,.str),(5,ii),(69,.pc 3 0),(87,.bool)],[c2,c1,c1,.cell []]⟩)]),(84,.cut [(.pan (.ifc 97 (.agg [ii,ii])),⟨[],[c2,c1,c1,.cell []]⟩),(.ret,⟨[(2,.pc 1 0)],[c2,c9,c1,.cell [],.row 35]⟩),(.normal,KU)]),(88,.draw (od [1,3,5,7,9,10,12,15,16]) [])]
def F36(x:I36.ty CC):Us (zi CC O36):=znZ ⟨d⟩ [P16,P18,P28,P21,P31,P17,P35,P22,P30] lpO prog f180 1 I36 O36 H36 x
def P36:Spec CC:=⟨180,1,I36,O36,F36⟩
theorem K36:Spec.OK prog P36:=zwI (za K16 (za K18 (za K28 (za K21 (za K31 (za K17 (za K35 (za K22 (za K30 ze))))))))) ZG ZF H36 (by kernel_rfl) (by kernel_rfl) (by kernel_rfl) λx=>rfl
def P37:=spA d [P17,P35,P18,P31,P22,P36] 157 1 f157 ⟨JL,[c2]⟩ [Ja,Ji] (hfind [(6,.cut [Ja,(.ret,HZ),(.normal,Hw)]),(16,.cut [Ja,(.ret,HZ),(.normal,Hw)]),(24,.draw (od [1,3,5,6,8,10,13,14]) [])])
theorem K37:P37.OK prog:=kA (za K17 (za K35 (za K18 (za K31 (za K22 (za K36 ze)))))) (by kernel_rfl)
def I38:Sig:=⟨HT,[c2]⟩
def O38:List (XK×Sig):=[Ja,Ji]
def H38:Nat->Us Hint:=hfind [(7,.draw (od [1,3,5,6,8,10,13,14]) [])]
def I39:Sig:=Jw
def O39:List (XK×Sig):=[Ja,Ki]
def H39:Nat->Us Hint:=hfind [(10,.cut [Ja,(.ret,Js),Jo]),(20,.cut [Ja,(.ret,Js),Jo]),(22,.cut [Ja,(.normal,Js)]),(26,.cut [Ja,(.ret,Js),Jo]),(28,.cut [Ja,(.normal,Js)]),(32,.cut [Ja,(.ret,Js),Jo]),(38,.cut [Ja,(.normal,⟨[(2,.pc 1 0),(6,.pc 2 0)],Kb⟩)]),(39,.draw (od [1,3,5,6,8,10,13,14]) []),(46,.cut [Ja,(.ret,Js),Jo]),(52,.cut [Ja,(.ret,Js),Jo]),(58,.cut [Ja,(.normal,⟨[(0,.pc 0 0),(2,.pc 1 0),(7,.pc 2 0)],Kb⟩)]),(66,.cut [Ja,(.ret,Js),Jo]),(72,.cut [Ja,(.ret,Js),Jo]),(82,.cut [Ja,(.normal,Js)])]
def I40:Sig:=Jw
def O40:List (XK×Sig):=[Ja,Ji]
def H40:Nat->Us Hint:=hfind [(6,.cut [(.normal,⟨[(0,.pc 0 0),(2,.pc 1 0),(3,.pc 2 0),(16,.bool)],[c2,c1,c1]⟩)]),(16,.loop HC [Ja,(.exit 0,HC)]),(24,.draw (od [1,3,5,6,8,10,13,14]) [])]
def zhf(h:I40.ty CC->Us (zi CC O40)):Spec CC:=⟨72,1,I40,O40,h⟩
def zn6(h:I40.ty CC->Us (zi CC O40))(x:I38.ty CC):Us (zi CC O38):=XY ⟨d⟩ [P33,zhf h] lpO prog f155 1 I38 O38 H38 x
def zx1(h:I40.ty CC->Us (zi CC O40)):Spec CC:=⟨155,1,I38,O38,zn6 h⟩
theorem zAT{h:I40.ty CC->Us (zi CC O40)}(hh:Spec.OK prog (zhf h)):Spec.OK prog (zx1 h):=yE (za K33 (za hh ze)) ZG ZF H38 (by kernel_rfl) (by kernel_rfl) (by kernel_rfl) λx=>rfl
def zn7(h:I40.ty CC->Us (zi CC O40))(x:I39.ty CC):Us (zi CC O39):=XY ⟨d⟩ [P16,P18,P21,P26,P27,P29,zx1 h,zhf h,P17,P31,P35,P37] lpO prog f123 1 I39 O39 H39 x
def zx2(h:I40.ty CC->Us (zi CC O40)):Spec CC:=⟨123,1,I39,O39,zn7 h⟩
theorem zAU{h:I40.ty CC->Us (zi CC O40)}(hh:Spec.OK prog (zhf h)):Spec.OK prog (zx2 h):=yE (za K16 (za K18 (za K21 (za K26 (za K27 (za K29 (za (zAT hh) (za hh (za K17 (za K31 (za K35 (za K37 ze)))))))))))) ZG ZF H39 (by kernel_rfl) (by kernel_rfl) (by kernel_rfl) λx=>rfl
def zn8(h:I40.ty CC->Us (zi CC O40))(x:I40.ty CC):Us (zi CC O40):=XY ⟨d⟩ [P16,P17,P19,P22,P18,zx2 h] lpO prog f72 1 I40 O40 H40 x
def zAV(h:I40.ty CC->Us (zi CC O40)):Spec CC:=⟨72,1,I40,O40,zn8 h⟩
theorem zAW{h:I40.ty CC->Us (zi CC O40)}(hh:Spec.OK prog (zhf h)):Spec.OK prog (zAV h):=yE (za K16 (za K17 (za K19 (za K22 (za K18 (za (zAU hh) ze)))))) ZG ZF H40 (by kernel_rfl) (by kernel_rfl) (by kernel_rfl) λx=>rfl
def zkQ:Nat->I40.ty CC->Us (zi CC O40)
  |0=>λ_=>m
  |k+1=>zn8 (zkQ k)
theorem zx3:∀k,Spec.OK prog (zhf (zkQ k))
  |0=>⟨f72,by kernel_rfl,by kernel_rfl,by kernel_rfl,λx r h=>by cases h⟩
  |k+1=>zAW (zx3 k)
def F40(x:I40.ty CC):Us (zi CC O40):=zkQ 100000 x
def P40:Spec CC:=⟨72,1,I40,O40,F40⟩
theorem K40:Spec.OK prog P40:=zx3 100000
def P41:=spA d [P21,P22,P17,P25,P18,P19,P23,P16,P40] 27 1 f27 JX [Ja,Ji] (hfind [(11,.cut [Ja,Kz]),(21,.cut [Ja,(.normal,⟨[(0,.pc 0 0),(4,.pc 1 0),(5,.pc 2 0),(6,.pc 3 0)],[c2,c1,c9,c5,.row 35]⟩)]),(31,.draw (od [1,3,5,7,8,10,12,15,16]) [])])
theorem K41:P41.OK prog:=kA (za K21 (za K22 (za K17 (za K25 (za K18 (za K19 (za K23 (za K16 (za K40 ze))))))))) (by kernel_rfl)
def P42:=spA d [P16,P18,P21,P19] 73 1 f73 Jw [Ji,Ja] (hfind [(9,.cut [(.normal,⟨[(0,.pc 0 0),(2,.pc 1 0),(3,.pc 2 0),(13,.bool)],[c2,c1,c1]⟩)]),(12,.cut [KW,Ja]),(17,.cut Hg),(21,.cut Hg),(24,.cut [Ja,KW])])
theorem K42:P42.OK prog:=kA (za K16 (za K18 (za K21 (za K19 ze)))) (by kernel_rfl)
def P43:=spA d [P21,P18,P22] 74 1 f74 Jw [Ja,Ji] (hfind [(9,.cut [Ja,KW])])
theorem K43:P43.OK prog:=kA (za K21 (za K18 (za K22 ze))) (by kernel_rfl)
def P44:=spA d [P43,P18] 68 1 f68 ⟨[(0,.pc 0 0),(1,.clo 74 [.tup [.pc 0 0]])],[c2]⟩ [Ja,Kj] (hfind [(6,.loop ⟨[(0,.pc 0 0),(1,.clo 74 [.tup [.pc 0 0]]),(5,.row 1)],[c2,.row 35]⟩ [Ja,Kv])])
theorem K44:P44.OK prog:=kA (za K43 (za K18 ze)) (by kernel_rfl)
def P45:=spA d [P33,P18] 68 1 f68 ⟨[(0,.pc 0 0),(1,.clo 75 [.tup [.pc 0 0]])],[c2]⟩ [Ja,Kj] (hfind [(6,.loop ⟨[(0,.pc 0 0),(1,.clo 75 [.tup [.pc 0 0]]),(5,.row 1)],[c2,.row 35]⟩ [Ja,Kv])])
theorem K45:P45.OK prog:=kA (za K33 (za K18 ze)) (by kernel_rfl)
def P46:=spA d [P21,P42,P18,P44,P22,P45] 29 1 f29 JX [Ja,Ji] (hfind [(9,.cut [Ja,Kz]),(11,.draw (od [1,3,5,7,9,10,12,15,16]) []),(17,.cut [Ja,Kz]),(18,.draw (od [1,3,5,7,9,10,12,15,16]) [])])
theorem K46:P46.OK prog:=kA (za K21 (za K42 (za K18 (za K44 (za K22 (za K45 ze)))))) (by kernel_rfl)
def I47:Sig:=Kd
def O47:List (XK×Sig):=Jy
def H47:Nat->Us Hint:=hfind [(8,.loop ⟨[(3,ii),(7,.sl 35),(8,ii),(9,ii)],[]⟩ G8)]
def zsH(h:I47.ty CC->Us (zi CC O47)):Spec CC:=⟨30,1,I47,O47,h⟩
def zn9(h:I47.ty CC->Us (zi CC O47))(x:I47.ty CC):Us (zi CC O47):=XY ⟨d⟩ [zsH h] lpO prog f30 1 I47 O47 H47 x
def zAX(h:I47.ty CC->Us (zi CC O47)):Spec CC:=⟨30,1,I47,O47,zn9 h⟩
theorem zAY{h:I47.ty CC->Us (zi CC O47)}(hh:Spec.OK prog (zsH h)):Spec.OK prog (zAX h):=yE (za hh ze) ZG ZF H47 (by kernel_rfl) (by kernel_rfl) (by kernel_rfl) λx=>rfl
def zkR:Nat->I47.ty CC->Us (zi CC O47)
  |0=>λ_=>m
  |k+1=>zn9 (zkR k)
theorem zx4:∀k,Spec.OK prog (zsH (zkR k))
  |0=>⟨f30,by kernel_rfl,by kernel_rfl,by kernel_rfl,λx r h=>by cases h⟩
  |k+1=>zAY (zx4 k)
def F47(x:I47.ty CC):Us (zi CC O47):=zkR 100000 x
def P47:Spec CC:=⟨30,1,I47,O47,F47⟩
theorem K47:Spec.OK prog P47:=zx4 100000
def I48:Sig:=⟨[(0,.pc 0 0),(1,.pc 1 0),(2,.pc 2 0),(3,.ifc 97 (.agg [ii,ii]))],Gl⟩
def O48:List (XK×Sig):=[(.ret,⟨[],[c1,c11,c11,.row 35]⟩)]
def H48:Nat->Us Hint:=hfind [(5,.draw (od [1,3,5,7,9,10,12,14]) [])]
def F48(x:I48.ty CC):Us (zi CC O48):=zbJ ⟨d⟩ [] lpO prog f24 0 I48 O48 H48 x
def P48:Spec CC:=⟨24,0,I48,O48,F48⟩
theorem K48:Spec.OKD prog P48:=vP ze ZG ZF H48 (by kernel_rfl) (by kernel_rfl) (by kernel_rfl) λx=>rfl
def I49:Sig:=⟨KQ,Gl⟩
def O49:List (XK×Sig):=[(.ret,⟨[],Gl⟩)]
def H49:Nat->Us Hint:=hfind []
def F49(x:I49.ty CC):Us (zi CC O49):=zbJ ⟨d⟩ [] lpO prog f24 0 I49 O49 H49 x
def P49:Spec CC:=⟨24,0,I49,O49,F49⟩
theorem K49:Spec.OKD prog P49:=vP ze ZG ZF H49 (by kernel_rfl) (by kernel_rfl) (by kernel_rfl) λx=>rfl
def I50:Sig:=JV
def O50:List (XK×Sig):=[(.ret,⟨[(0,.val 35),(1,ii),(2,ii)],[]⟩)]
def H50:Nat->Us Hint:=hfind [(9,.draw (od [1,3,5,6,8,10]) []),(13,.loop ⟨[(2,.pc 0 0),(3,.pc 1 0),(4,.pc 2 0),(5,.sl 104),(19,.clo 24 [.pc 0 0,.pc 1 0,.pc 2 0])],[c1,c11,c11]⟩ []),(18,.loop ⟨[(2,.pc 0 0),(3,.pc 1 0),(4,.pc 2 0),(6,.pc 3 0)],[c9,c11,c11,c2,.row 35]⟩ [(.pan (.ifc 97 (.agg [ii,ii])),Hh),(.exit 0,Hh)]),(25,.cut Jn),(33,.draw (od [1,3,5,7,11,13,8,14,17,21,9366,22,18]) Jn),(38,.draw (od [1,3,5,7,11,13,8,14,17,21,9366,22,18]) Jn)]
def F50(x:I50.ty CC):Us (zi CC O50):=zg7 ⟨d⟩ [P15,P16,P18,P41,P22,P46,P47] (P49) (P48) lpO prog f7 3 I50 O50 H50 x
def P50:Spec CC:=⟨7,3,I50,O50,F50⟩
theorem K50:Spec.OK prog P50:=zg8 (za K15 (za K16 (za K18 (za K41 (za K22 (za K46 (za K47 ze))))))) K49 K48 ZG ZF H50 (by kernel_rfl) (by kernel_rfl) (by kernel_rfl) λx=>rfl
def P51:=spA d [] 94 2 f94 Kd [(.ret,⟨[(0,.row 0),(1,.row 1)],[.row 35,.row 35]⟩)] (hfind [(6,.loop JZ [(.exit 0,⟨[(2,.row 0),(3,.row 1)],[.row 35,.row 35]⟩)]),(22,.cut [(.normal,JZ)]),(26,.cut [(.normal,JZ)])])
theorem K51:P51.OK prog:=kA ze (by kernel_rfl)
def P52:=spA d [] 127 1 f127 ⟨[(0,.val 80),(1,.pc 0 0)],[c23]⟩ Kt (hfind [])
theorem K52:P52.OK prog:=kA ze (by kernel_rfl)
def P53:=spA d [P52] 126 1 f126 ⟨[(0,.sl 80),(1,.clo 127 [.pc 0 0])],[c23]⟩ Ha (hfind [(6,.loop ⟨[(0,.sl 80),(1,.clo 127 [.pc 0 0]),(7,ii),(8,ii)],[c23]⟩ JW)])
theorem K53:P53.OK prog:=kA (za K52 ze) (by kernel_rfl)
def P54:=spA d [P53] 79 1 f79 ⟨[(0,.sl 80),(1,.str)],[]⟩ Jy (hfind [])
theorem K54:P54.OK prog:=kA (za K53 ze) (by kernel_rfl)
def P55:=spA d [] 95 0 f95 ⟨[(0,.bool),(1,.val 35),(2,ii)],[]⟩ [J7,(.ret,⟨[],[]⟩)] (hfind [])
theorem K55:P55.OK prog:=kA ze (by kernel_rfl)
def P56:=spA d [] 136 1 f136 HW Kt (hfind [])
theorem K56:P56.OK prog:=kA ze (by kernel_rfl)
def P57:=spA d [P56] 137 1 f137 H8 Ha (hfind [(6,.loop ⟨[(0,.sl 35),(1,.clo 136 [.pc 0 0]),(7,ii),(8,ii)],[c23]⟩ JW)])
theorem K57:P57.OK prog:=kA (za K56 ze) (by kernel_rfl)
def P58:=spA d [P57] 135 1 f135 H8 Kt (hfind [])
theorem K58:P58.OK prog:=kA (za K57 ze) (by kernel_rfl)
def P59:=spA d [P58] 96 1 f96 ⟨[(0,.sl 35),(1,.str)],[]⟩ Jj (hfind [])
theorem K59:P59.OK prog:=kA (za K58 ze) (by kernel_rfl)
def P60:=spA d [] 138 1 f138 HW Kt (hfind [(3,.cut [(.normal,⟨[(3,.bool)],[c23]⟩)])])
theorem K60:P60.OK prog:=kA ze (by kernel_rfl)
def P61:=spA d [P60] 137 1 f137 ⟨[(0,.sl 35),(1,.clo 138 [.pc 0 0])],[c23]⟩ Ha (hfind [(6,.loop ⟨[(0,.sl 35),(1,.clo 138 [.pc 0 0]),(7,ii),(8,ii)],[c23]⟩ JW)])
theorem K61:P61.OK prog:=kA (za K60 ze) (by kernel_rfl)
def P62:=spA d [P61] 97 1 f97 ⟨[(0,.val 80),(1,.str),(2,.sl 35)],[]⟩ Jy (hfind [])
theorem K62:P62.OK prog:=kA (za K61 ze) (by kernel_rfl)
def P63:=spA d [] 139 1 f139 ⟨[(0,.sl 9),(1,.str)],[]⟩ Jy (hfind [(6,.loop ⟨[(0,.sl 9),(1,.str),(7,ii),(8,ii)],[]⟩ KO)])
theorem K63:P63.OK prog:=kA ze (by kernel_rfl)
def P64:=spA d [P63,P62,P55,P54] 98 0 f98 ⟨[(0,.sl 80),(1,.pc 0 0),(2,.val 35),(3,.sl 35),(4,.sl 35)],KY⟩ [Jk,(.ret,⟨[],KY⟩)] (hfind [(10,.cut [(.normal,⟨[(0,.sl 80),(1,.pc 0 0),(3,.sl 35),(4,.sl 35),(7,.pc 3 0),(20,ii),(21,.bool)],[c16,.row 214,.row 275,c5]⟩)]),(13,.cut [Jk,(.normal,⟨[],KY⟩)]),(15,.draw (od [1,3,5,7,9,11,13,15,17,19,20,23,25,26]) []),(16,.draw (od [1,3,5,7,9,11,12]) []),(19,.cut [Jk,(.normal,⟨[],KY⟩)]),(23,.draw (od [1,3,5,7,9,11,13,15,17,19,21,23,25,27,29,31,33,34]) [Jk,(.normal,⟨[(3,.sl 35),(4,.sl 35),(7,.pc 3 0)],[c16,.row 214,.row 275,c5]⟩)])])
theorem K64:P64.OK prog:=kA (za K63 (za K62 (za K55 (za K54 ze)))) (by kernel_rfl)
def P65:=spA d [] 140 1 f140 H7 [(.ret,⟨[(0,.row 0)],[.row 275]⟩)] (hfind [(8,.cut H3),(14,.cut H3)])
theorem K65:P65.OK prog:=kA ze (by kernel_rfl)
def P66:=spA d [P62,P55,P65] 99 0 f99 ⟨[(0,.pc 0 0),(1,.val 35),(2,.sl 35)],KY⟩ [Jk,(.ret,⟨[],[.cell [.str,ii,ii,.row 1,.row 3],.row 214,.gone,.row 275]⟩)] (hfind [(8,.loop JA [Jk,(.exit 0,⟨[(0,.pc 0 0),(4,.pc 3 0),(6,.pc 4 0)],G7⟩)]),(16,.cut [(.normal,JA),Jk]),(26,.draw (od [1,3,5,7,9,11,12,15]) []),(28,.draw (od [1,3,5,7,9,11,13,15,17,19,21,23,25,27,29,31,33,35,37,39,41,43,45,47,49,51,52]) [Jk,(.normal,⟨[(0,.pc 0 0),(2,.sl 35),(4,.pc 3 0),(6,.pc 4 0),(7,ii),(9,ii),(11,.sl 35),(12,ii),(13,ii)],G7⟩)]),(29,.cut [(.normal,JA)]),(31,.draw (od [1,3,5,7,9,11,13,15,17,19,21,23,25,27,29,31,33,35,37,39,41,42,44,47,49,50]) [])])
theorem K66:P66.OK prog:=kA (za K62 (za K55 (za K65 ze))) (by kernel_rfl)
def P67:=spA j [P51,P54,P55,P59,P62,P64,P66] 48 1 f48 ⟨[(0,.sl 80),(1,.val 35)],[]⟩ [J7,(.ret,⟨[(0,.agg [.str,ii,ii,.row 0,.row 1])],[.row 214,.row 275]⟩)] (hfind [(7,.draw (od [1,3,5,11,6,9,12]) []),(14,.loop Kf [J7,(.exit 0,⟨[(0,.sl 80),(3,.pc 0 0),(4,.pc 1 0),(5,.sl 35),(6,.row 2),(7,.pc 3 0)],[c5,c10,.row 35,c50,.row 214]⟩)]),(22,.cut [J7,(.normal,Kf)]),(26,.draw (od [1,3,5,7,9,15,10,13,16]) []),(32,.cut [J7,(.normal,JO)]),(34,.draw (od [1,3,5,7,9,11,13,14,17]) []),(35,.draw (od [1,3,5,7,9,11,13,15,17,19,21,22]) [J7,(.normal,JO)]),(45,.loop ⟨[(4,.pc 0 0),(5,.sl 35),(7,.pc 1 0),(91,.sl 35),(92,ii),(93,ii)],[c10,c31,.row 214,.row 275]⟩ [J7,(.exit 2,⟨[(4,.pc 0 0),(7,.pc 1 0)],[c10,c31,.row 214,.row 275]⟩)])])
theorem K67:P67.OK prog:=kA (za K51 (za K54 (za K55 (za K59 (za K62 (za K64 (za K66 ze))))))) (by kernel_rfl)
def I68:Sig:=⟨[(0,.pc 0 0),(1,.pc 1 0),(2,.pc 2 0),(3,.ifc 151 (.agg [ii,ii]))],Gk⟩
def O68:List (XK×Sig):=[(.ret,⟨[],[c28,c11,c11,.row 80]⟩)]
def H68:Nat->Us Hint:=hfind [(5,.draw (od [1,3,5,7,8,10,12]) [])]
def F68(x:I68.ty CC):Us (zi CC O68):=zbJ ⟨d⟩ [] lpO prog f47 0 I68 O68 H68 x
def P68:Spec CC:=⟨47,0,I68,O68,F68⟩
theorem K68:Spec.OKD prog P68:=vP ze ZG ZF H68 (by kernel_rfl) (by kernel_rfl) (by kernel_rfl) λx=>rfl
def I69:Sig:=⟨KQ,Gk⟩
def O69:List (XK×Sig):=[(.ret,⟨[],Gk⟩)]
def H69:Nat->Us Hint:=hfind []
def F69(x:I69.ty CC):Us (zi CC O69):=zbJ ⟨d⟩ [] lpO prog f47 0 I69 O69 H69 x
def P69:Spec CC:=⟨47,0,I69,O69,F69⟩
theorem K69:Spec.OKD prog P69:=vP ze ZG ZF H69 (by kernel_rfl) (by kernel_rfl) (by kernel_rfl) λx=>rfl
def I70:Sig:=Kd
def O70:List (XK×Sig):=[(.ret,⟨Kl,[.row 80]⟩)]
def H70:Nat->Us Hint:=hfind [(3,.loop ⟨[(1,.pc 0 0),(2,.pc 1 0),(3,.pc 2 0),(4,.pc 3 0),(7,.clo 47 [.pc 1 0,.pc 2 0,.pc 3 0])],[c5,c28,c11,c11]⟩ []),(8,.loop ⟨[(2,.pc 1 0),(3,.pc 2 0),(4,.pc 3 0),(9,.sl 35),(10,ii),(11,ii)],[c5,c40,c11,c11,.row 80]⟩ [(.pan (.ifc 151 (.agg [ii,ii])),Hc),(.exit 0,Hc)]),(21,.cut JI),(22,.draw (od [3,5,8198,8200,8,0,10,12,6,8,10,12]) JI)]
def F70(x:I70.ty CC):Us (zi CC O70):=zg7 ⟨d⟩ [P67] (P69) (P68) lpO prog f18 3 I70 O70 H70 x
def P70:Spec CC:=⟨18,3,I70,O70,F70⟩
theorem K70:Spec.OK prog P70:=zg8 (za K67 ze) K69 K68 ZG ZF H70 (by kernel_rfl) (by kernel_rfl) (by kernel_rfl) λx=>rfl
def P71:=spA d [P63,P54] 100 2 f100 Hm [(.ret,⟨[(0,.val 47),(1,ii)],[]⟩)] (hfind [(7,.cut [(.ret,⟨[(4,.pc 0 0),(5,ii)],[c8]⟩),(.normal,⟨HY,[c8,c8]⟩)])])
theorem K71:P71.OK prog:=kA (za K63 (za K54 ze)) (by kernel_rfl)
def P72:=spA d [] 101 1 f101 ⟨Hp,[c8]⟩ [(.ret,G3)] (hfind [])
theorem K72:P72.OK prog:=kA ze (by kernel_rfl)
def P73:=spA d [P72] 76 1 f76 Hv [(.ret,Gn)] (hfind [(6,.loop ⟨[(0,.row 0),(1,.clo 101 [.pc 1 0]),(7,ii),(8,ii)],[.row 47,c8]⟩ Hq)])
theorem K73:P73.OK prog:=kA (za K72 ze) (by kernel_rfl)
def P74:=spA d [P73] 41 1 f41 Hv [(.ret,Gi)] (hfind [])
theorem K74:P74.OK prog:=kA (za K73 ze) (by kernel_rfl)
def P75:=spA d [] 102 1 f102 ⟨[(0,.val 47),(1,.sl 80)],[]⟩ Jj (hfind [(3,.cut Jb)])
theorem K75:P75.OK prog:=kA ze (by kernel_rfl)
def P76:=spA d [] 103 1 f103 ⟨Hp,[c8]⟩ [(.ret,G3)] (hfind [(3,.cut [(.normal,⟨[(3,.bool)],[c8]⟩)])])
theorem K76:P76.OK prog:=kA ze (by kernel_rfl)
def P77:=spA d [P76] 76 1 f76 Hu [(.ret,Gn)] (hfind [(6,.loop ⟨[(0,.row 0),(1,.clo 103 [.pc 1 0]),(7,ii),(8,ii)],[.row 47,c8]⟩ Hq)])
theorem K77:P77.OK prog:=kA (za K76 ze) (by kernel_rfl)
def P78:=spA d [P77] 41 1 f41 Hu [(.ret,Gi)] (hfind [])
theorem K78:P78.OK prog:=kA (za K77 ze) (by kernel_rfl)
def P79:=spA d [P71,P74,P75,P78] 49 3 f49 Hm [(.ret,⟨[(0,.val 49),(1,ii),(2,ii)],[]⟩)] (hfind [(11,.draw (od [1,3,5,6,9,11]) []),(18,.loop ⟨[(1,.sl 80),(2,.pc 0 0),(4,.pc 1 0),(7,.pc 2 0),(8,ii),(29,.sl 35),(30,ii),(31,ii)],[c5,c17,c34,.row 47]⟩ [J3,(.exit 0,⟨[(1,.sl 80),(2,.pc 0 0),(4,.pc 1 0),(7,.pc 2 0),(8,ii)],[c5,c17,c34,.row 47]⟩)]),(37,.cut [J3,(.normal,Km)]),(39,.draw (od [1,3,5,6,9,11]) []),(43,.cut [J3,(.normal,Km)]),(45,.draw (od [1,3,5,7,9,11,13,14,17,19]) []),(48,.cut [(.normal,⟨[(1,.sl 80),(2,.pc 0 0),(4,.pc 1 0),(7,.pc 2 0),(8,ii),(10,.pc 3 0),(11,.pc 4 0),(29,.sl 35),(30,ii),(31,ii),(65,.bool)],[c5,c17,c45,c5,c8,.row 47]⟩)]),(51,.draw (od [1,3,5,7,9,11,12,15,17]) []),(65,.draw (od [1,3,5,7,9,11,13,15,16,19,21]) [])])
theorem K79:P79.OK prog:=kA (za K71 (za K74 (za K75 (za K78 ze)))) (by kernel_rfl)
def P80:=spA d [P79] 19 3 f19 Hm [(.ret,⟨Kl,[.row 49]⟩)] (hfind [(8,.loop Hf [Ku,(.exit 0,⟨[(7,.row 0)],[.row 49]⟩)]),(16,.cut [(.normal,Hf),Ku])])
theorem K80:P80.OK prog:=kA (za K79 ze) (by kernel_rfl)
def P81:=spA d [] 141 1 f141 Ky Jj (hfind [(3,.cut Ka)])
theorem K81:P81.OK prog:=kA ze (by kernel_rfl)
def P82:=spA d [] 142 1 f142 Ky Jj (hfind [(3,.cut Ka)])
theorem K82:P82.OK prog:=kA ze (by kernel_rfl)
def P83:=spA d [] 143 1 f143 JV Jj (hfind [(9,.cut Jb),(13,.cut Jb),(17,.cut Jb),(21,.cut Jb),(25,.cut Jb),(29,.cut Jb),(33,.cut Jb),(37,.cut Jb),(41,.cut Jb),(45,.cut Jb),(49,.cut Jb),(53,.cut Jb),(57,.cut Jb),(61,.cut Jb),(65,.cut Jb),(69,.cut Jb),(73,.cut Jb),(77,.cut Jb),(81,.cut Jb)])
theorem K83:P83.OK prog:=kA ze (by kernel_rfl)
def P84:=spA d [] 144 1 f144 Gs Jy (hfind [(7,.cut [(.normal,⟨[(0,.str),(1,ii),(5,.str)],[]⟩)]),(12,.cut [(.normal,⟨[(0,.str),(1,ii),(25,.bool)],[]⟩)]),(25,.cut Jq),(29,.cut Jq),(33,.cut Jq),(37,.cut Jq),(41,.cut Jq),(45,.cut Jq),(49,.cut Jq),(53,.cut Jq),(57,.cut Jq),(61,.cut Jq),(65,.cut Jq),(69,.cut Jq),(73,.cut Jq)])
theorem K84:P84.OK prog:=kA ze (by kernel_rfl)
def P85:=spA d [P81,P82,P83,P84] 104 2 f104 Gs [(.ret,⟨[(0,.val 163),(1,ii)],[]⟩)] (hfind [(13,.cut [(.ret,Gc),(.normal,⟨[(0,.str),(1,ii),(4,.pc 0 0),(6,.pc 1 0),(7,ii),(9,.bool)],[c21,c21]⟩)]),(16,.loop Hj [(.exit 0,Hj)]),(30,.cut [(.normal,⟨[(0,.str),(1,ii),(4,.pc 0 0),(6,.pc 1 0),(7,ii),(47,.bool)],[c21,c21]⟩)]),(52,.cut [(.normal,⟨HY,[c21,c21]⟩)]),(62,.cut [(.ret,Gc),(.normal,⟨[(0,.str),(1,ii),(4,.pc 0 0),(6,.pc 1 0)],[c21,c21]⟩)]),(69,.loop J5 [(.exit 2,J5)]),(88,.cut [(.normal,J5)]),(94,.cut [(.normal,J5)]),(103,.cut [(.normal,⟨[(0,.str),(1,ii),(4,.pc 0 0),(6,.pc 1 0),(7,ii),(13,ii),(14,.bool),(16,.bool)],[c21,c21]⟩)]),(108,.cut [(.normal,⟨[(0,.str),(1,ii),(4,.pc 0 0),(6,.pc 1 0),(7,ii),(13,ii),(115,.bool)],[c21,c21]⟩)])])
theorem K85:P85.OK prog:=kA (za K81 (za K82 (za K83 (za K84 ze)))) (by kernel_rfl)
def P86:=spA d [P85] 50 3 f50 JV [(.ret,⟨Kl,[.row 163]⟩)] (hfind [(16,.loop ⟨JY,[.row 163]⟩ [JK,(.exit 0,⟨[(0,.str),(5,.row 0)],[.row 163]⟩)]),(23,.cut [(.normal,⟨JY,[.row 163]⟩),JK]),(26,.cut [(.normal,⟨[(0,.str),(5,.row 0),(6,ii),(25,.bool)],[.row 163]⟩)]),(38,.loop ⟨JY,[.row 163]⟩ [(.exit 2,⟨JY,[.row 163]⟩)]),(41,.cut [(.normal,⟨[(0,.str),(5,.row 0),(6,ii),(41,.bool)],[.row 163]⟩)])])
theorem K86:P86.OK prog:=kA (za K85 ze) (by kernel_rfl)
def P87:=spA d [] 105 1 f105 ⟨Kn,[c3,.row 163]⟩ [(.ret,Gf)] (hfind [(3,.draw (od [1,3,5,7,9,11,13,15,17,19,21,23]) []),(5,.draw (od [1,3,5,7,9,11,13,15,17,19,21,23,25,27,29,31,33,35,37,39,41,43,45,47,49,51,53,55,57]) [(.normal,⟨[(4,.bool)],[c3,.row 163]⟩)])])
theorem K87:P87.OK prog:=kA ze (by kernel_rfl)
def P88:=spA d [P87] 51 1 f51 ⟨Kn,[c3,.row 163]⟩ [(.ret,Gf)] (hfind [(7,.cut [(.normal,⟨[(5,.bool)],[c3,.row 163]⟩)])])
theorem K88:P88.OK prog:=kA (za K87 ze) (by kernel_rfl)
def P89:=spA d [] 108 0 f108 KR [(.ret,Ho)] (hfind [(2,.cut [(.normal,Ho)]),(5,.draw (od [1,3,5,7,9,11,13,15,17,19,21,23,25,27,28]) [])])
theorem K89:P89.OK prog:=kA ze (by kernel_rfl)
def P90:=spA d [P89] 106 1 f106 Jl [(.ret,⟨H0,[c3,.row 163]⟩)] (hfind [(3,.draw (od [1,3,5,7,9,11,13,15,17,19,20,22]) []),(6,.cut [(.normal,⟨[(0,.pc 0 0),(2,.pc 2 0),(3,.pc 3 0),(23,.bool)],[c3,.row 163,c1,c21]⟩)])])
theorem K90:P90.OK prog:=kA (za K89 ze) (by kernel_rfl)
def P91:=spA d [P88,P89] 53 0 f53 ⟨Kn,[c3,.row 163]⟩ [(.ret,Ho)] (hfind [(4,.cut [(.normal,Ho)])])
theorem K91:P91.OK prog:=kA (za K88 (za K89 ze)) (by kernel_rfl)
def P92:=spA d [P88,P91,P90] 107 1 f107 Jl JU (hfind [(3,.draw (od [1,3,5,7,9,11,13,15,17,19,21,23,25,27,29,31,33,35,37,39,41,43,45,46,48]) []),(19,.cut Gt),(26,.cut Gt)])
theorem K92:P92.OK prog:=kA (za K88 (za K91 (za K90 ze))) (by kernel_rfl)
def P93:=spA d [P89] 170 1 f170 Jl [(.ret,⟨[(0,ii)],[c3,.row 163]⟩)] (hfind [(3,.draw (od [1,3,5,7,9,11,13,15,17,19,20,22]) []),(6,.cut [(.normal,⟨[(0,.pc 0 0),(3,.pc 2 0),(23,.bool)],[c3,.row 163,c21]⟩)])])
theorem K93:P93.OK prog:=kA (za K89 ze) (by kernel_rfl)
def P94:=spA d [P88,P93] 173 1 f173 ⟨[(0,.pc 0 0),(1,.val 86)],[c3,.row 163]⟩ JU (hfind [(19,.cut [(.normal,⟨[(3,.pc 2 0),(4,.pc 3 0)],[c3,.row 163,c7,c1]⟩)])])
theorem K94:P94.OK prog:=kA (za K88 (za K93 ze)) (by kernel_rfl)
def P95:=spA d [P93,P88,P90,P94] 146 1 f146 Jl JU (hfind [(3,.draw (od [1,3,5,7,9,11,13,15,17,19,21,23]) []),(6,.draw (od [1,3,5,7,9,11,13,15,17,19,21,23]) [])])
theorem K95:P95.OK prog:=kA (za K93 (za K88 (za K90 (za K94 ze)))) (by kernel_rfl)
def P96:=spA d [P88,P89] 147 1 f147 Jl [(.ret,⟨[(0,.str)],[c3,.row 163]⟩)] (hfind [(8,.loop ⟨[(0,.pc 0 0),(3,.row 2),(4,ii)],[c3,.row 163,.row 9]⟩ [(.ret,⟨[(2,.str)],[c3,.row 163]⟩),(.exit 0,Jl)])])
theorem K96:P96.OK prog:=kA (za K88 (za K89 ze)) (by kernel_rfl)
def P97:=spA d [P95,P96] 112 1 f112 Jl Jf (hfind [])
theorem K97:P97.OK prog:=kA (za K95 (za K96 ze)) (by kernel_rfl)
def P98:=spA d [P91,P88,P95] 171 1 f171 Jl [(.ret,⟨[(0,.row 2)],[c3,.row 163,.row 86]⟩)] (hfind [(8,.cut [(.normal,⟨[(0,.pc 0 0),(18,.bool)],[c3,.row 163]⟩)]),(20,.loop ⟨[(0,.pc 0 0),(4,.pc 2 0),(5,.row 3)],[c3,.row 163,c7,.row 86]⟩ [(.exit 0,⟨[(0,.pc 0 0),(5,.row 2)],[c3,.row 163,.row 86]⟩)])])
theorem K98:P98.OK prog:=kA (za K91 (za K88 (za K95 ze))) (by kernel_rfl)
def P99:=spA d [P88,P93,P90,P95,P87,P98,P91,P94] 188 1 f188 Jl JU (hfind [(3,.draw (od [1,3,5,7,9,11,13,15,17,19,21,23,24,26]) []),(47,.cut Gt),(60,.draw (od [1,3,5,7,9,11,13,15,17,19,21,23]) []),(106,.draw (od [1,3,5,7,9,11,13,15,17,19,21,23,25,27,29,31,33,35,37]) [(.normal,⟨[(0,.pc 0 0),(2,.pc 2 0),(3,.pc 3 0),(14,.bool),(119,.bool)],Gw⟩)]),(117,.cut [(.normal,⟨[(2,.pc 2 0),(16,.pc 3 0)],Jz⟩)])])
theorem K99:P99.OK prog:=kA (za K88 (za K93 (za K90 (za K95 (za K87 (za K98 (za K91 (za K94 ze)))))))) (by kernel_rfl)
def zoa:=spA d [P90,P87,P98,P88,P95,P91,P99] 172 1 f172 Jl Jf (hfind [])
theorem zAZ:zoa.OK prog:=kA (za K90 (za K87 (za K98 (za K88 (za K95 (za K91 (za K99 ze))))))) (by kernel_rfl)
def zsI:Sig:=⟨HT,[c3,.row 163]⟩
def zsJ:List (XK×Sig):=Jf
def zx5:Nat->Us Hint:=hfind []
def zsK:Sig:=Jl
def zsL:List (XK×Sig):=Jf
def zx6:Nat->Us Hint:=hfind [(3,.draw (od [1,3,5,7,9,11,13,15,17,19,21,23]) []),(8,.draw (od [1,3,5,7,9,11,13,15,17,19,21,23]) []),(9,.cut [(.normal,⟨[(0,.pc 0 0),(2,.pc 2 0),(3,ii),(4,.str)],[c3,.row 163,c1]⟩)]),(10,.draw (od [1,3,5,7,9,11,13,15,17,19,21,23]) []),(20,.cut [(.ret,HF),Jg]),(32,.cut [(.normal,⟨[(2,.pc 2 0),(5,.pc 3 0),(6,.pc 4 0)],[c3,.row 163,c1,c52,.cell [ii,.str,ii,ii,.row 6],.row 86,.row 86]⟩)]),(50,.cut [Jg]),(61,.cut [(.normal,⟨[(0,.pc 0 0),(2,.pc 2 0),(4,.str),(5,.pc 3 0),(49,.str),(108,.bool)],Gw⟩)]),(64,.cut [Jg]),(74,.cut [(.normal,⟨[(0,.pc 0 0),(2,.pc 2 0),(5,.pc 3 0),(9,.pc 4 0)],[c3,.row 163,c1,c1,c1]⟩)]),(86,.cut [Jg]),(95,.cut [Jg]),(102,.cut [Jg]),(108,.cut [Jg])]
def Xv:Sig:=Jl
def Xw:List (XK×Sig):=Jf
def zx7:Nat->Us Hint:=hfind [(3,.draw (od [1,3,5,7,9,11,13,15,17,19,21,23,24,26]) []),(8,.cut [(.normal,⟨[(0,.pc 0 0),(2,.pc 2 0),(3,.pc 3 0),(28,.bool)],Gw⟩)]),(9,.cut Gt),(18,.loop HB [(.exit 0,HB)])]
def zdP(h:Xv.ty CC->Us (zi CC Xw)):Spec CC:=⟨109,1,Xv,Xw,h⟩
def ziC(h:Xv.ty CC->Us (zi CC Xw))(x:zsI.ty CC):Us (zi CC zsJ):=XY ⟨d⟩ [P97,zdP h] lpO prog f169 1 zsI zsJ zx5 x
def zuN(h:Xv.ty CC->Us (zi CC Xw)):Spec CC:=⟨169,1,zsI,zsJ,ziC h⟩
theorem zAh{h:Xv.ty CC->Us (zi CC Xw)}(hh:Spec.OK prog (zdP h)):Spec.OK prog (zuN h):=yE (za K97 (za hh ze)) ZG ZF zx5 (by kernel_rfl) (by kernel_rfl) (by kernel_rfl) λx=>rfl
def ziD(h:Xv.ty CC->Us (zi CC Xw))(x:zsK.ty CC):Us (zi CC zsL):=XY ⟨d⟩ [zuN h,P88,zdP h,P90,P91,P93,P87,P95,P98,zoa] lpO prog f145 1 zsK zsL zx6 x
def zuO(h:Xv.ty CC->Us (zi CC Xw)):Spec CC:=⟨145,1,zsK,zsL,ziD h⟩
theorem zAi{h:Xv.ty CC->Us (zi CC Xw)}(hh:Spec.OK prog (zdP h)):Spec.OK prog (zuO h):=yE (za (zAh hh) (za K88 (za hh (za K90 (za K91 (za K93 (za K87 (za K95 (za K98 (za zAZ ze)))))))))) ZG ZF zx6 (by kernel_rfl) (by kernel_rfl) (by kernel_rfl) λx=>rfl
def ziE(h:Xv.ty CC->Us (zi CC Xw))(x:Xv.ty CC):Us (zi CC Xw):=XY ⟨d⟩ [P87,P89,P91,P88,zuO h] lpO prog f109 1 Xv Xw zx7 x
def zAj(h:Xv.ty CC->Us (zi CC Xw)):Spec CC:=⟨109,1,Xv,Xw,ziE h⟩
theorem zAk{h:Xv.ty CC->Us (zi CC Xw)}(hh:Spec.OK prog (zdP h)):Spec.OK prog (zAj h):=yE (za K87 (za K89 (za K91 (za K88 (za (zAi hh) ze))))) ZG ZF zx7 (by kernel_rfl) (by kernel_rfl) (by kernel_rfl) λx=>rfl
def zf1:Nat->Xv.ty CC->Us (zi CC Xw)
  |0=>λ_=>m
  |k+1=>ziE (zf1 k)
theorem zuP:∀k,Spec.OK prog (zdP (zf1 k))
  |0=>⟨f109,by kernel_rfl,by kernel_rfl,by kernel_rfl,λx r h=>by cases h⟩
  |k+1=>zAk (zuP k)
def zx8(x:Xv.ty CC):Us (zi CC Xw):=zf1 100000 x
def zx9:Spec CC:=⟨109,1,Xv,Xw,zx8⟩
theorem zA0:Spec.OK prog zx9:=zuP 100000
def zsM:=spA d [P90,P91,P88,P92,P87,P89,zx9] 52 1 f52 KR Jf (hfind [(14,.loop Ht [(.exit 0,KH)]),(17,.cut [(.normal,⟨[(0,.pc 0 0),(4,.pc 2 0),(5,.pc 3 0),(6,.bool),(31,.bool)],Jz⟩)]),(38,.cut [(.normal,Ht)]),(44,.draw (od [1,3,5,7,9,11,13,15,17,19,21,23,24,26]) []),(50,.cut [(.normal,⟨HU,[c3,.row 163,c1,c52,c7,.row 86]⟩)]),(56,.cut [(.normal,⟨HU,[c3,.row 163,c1,c52,c1,.row 86]⟩)])])
theorem zA1:zsM.OK prog:=kA (za K90 (za K91 (za K88 (za K92 (za K87 (za K89 (za zA0 ze))))))) (by kernel_rfl)
def zsN:=spA d [P88,P90,P89] 110 1 f110 Jl JU (hfind [(3,.draw (od [1,3,5,7,9,11,13,15,17,19,21,23,25,27,29,31,33,35,37,39,41,43,45,46,48]) []),(30,.loop ⟨[(0,.pc 0 0),(2,.pc 2 0),(3,.pc 3 0),(6,.row 4),(7,ii)],[c3,.row 163,c1,c1,.row 9]⟩ [(.ret,HF),(.exit 0,J6)])])
theorem zA2:zsN.OK prog:=kA (za K88 (za K90 (za K89 ze))) (by kernel_rfl)
def zsO:=spA d [P90,P88,P91] 111 1 f111 Jl Jf (hfind [(11,.cut [(.normal,⟨[(2,.pc 2 0),(3,.pc 3 0)],Jz⟩)])])
theorem zA3:zsO.OK prog:=kA (za K90 (za K88 (za K91 ze))) (by kernel_rfl)
def zsP:=spA d [P90,zsN,P88,zsO,P91,P97] 54 1 f54 KR Jf (hfind [(16,.loop Hs [(.exit 0,KH)]),(32,.cut [(.normal,Hs)]),(39,.loop ⟨[(0,.pc 0 0),(4,.pc 2 0),(5,.pc 3 0),(9,.bool)],Jz⟩ [(.exit 2,KH)])])
theorem zA4:zsP.OK prog:=kA (za K90 (za zA2 (za K88 (za zA3 (za K91 (za K97 ze)))))) (by kernel_rfl)
def Vr:Sig:=KC
def Vs:List (XK×Sig):=Jy
def zya:Nat->Us Hint:=hfind [(8,.loop ⟨[(1,.pc 0 0),(3,ii),(4,ii)],[c7]⟩ G8)]
def zob(h:Vr.ty CC->Us (zi CC Vs)):Spec CC:=⟨55,1,Vr,Vs,h⟩
def ziF(h:Vr.ty CC->Us (zi CC Vs))(x:Vr.ty CC):Us (zi CC Vs):=XY ⟨d⟩ [zob h] lpO prog f55 1 Vr Vs zya x
def zAl(h:Vr.ty CC->Us (zi CC Vs)):Spec CC:=⟨55,1,Vr,Vs,ziF h⟩
theorem zAm{h:Vr.ty CC->Us (zi CC Vs)}(hh:Spec.OK prog (zob h)):Spec.OK prog (zAl h):=yE (za hh ze) ZG ZF zya (by kernel_rfl) (by kernel_rfl) (by kernel_rfl) λx=>rfl
def zf2:Nat->Vr.ty CC->Us (zi CC Vs)
  |0=>λ_=>m
  |k+1=>ziF (zf2 k)
theorem zuQ:∀k,Spec.OK prog (zob (zf2 k))
  |0=>⟨f55,by kernel_rfl,by kernel_rfl,by kernel_rfl,λx r h=>by cases h⟩
  |k+1=>zAm (zuQ k)
def zyb(x:Vr.ty CC):Us (zi CC Vs):=zf2 100000 x
def zyc:Spec CC:=⟨55,1,Vr,Vs,zyb⟩
theorem zA5:Spec.OK prog zyc:=zuQ 100000
def zoc:=spA d [P86,P88,zsM,P91,zsP,zyc] 20 3 f20 JV [(.ret,⟨[(0,.val 86),(1,ii),(2,ii)],[]⟩)] (hfind [(18,.loop JE [(.exit 0,JE)]),(21,.draw (od [1,3,5,7,9,11,13,15,17,19,21,23,25,27,29,31,33,35,37]) [(.normal,⟨[(2,.pc 0 0),(8,.pc 1 0),(9,.pc 2 0),(48,.bool)],[c1,c41,c9,.row 163,.row 86]⟩)]),(25,.cut [(.normal,JE)]),(27,.draw (od [1,3,5,7,9,11,13,15,17,19,21,23]) []),(44,.cut [(.normal,JE)]),(54,.draw (od [1,3,5,7,9,11,13,15,17,18,21,23]) [])])
theorem zyd:zoc.OK prog:=kA (za K86 (za K88 (za zA1 (za K91 (za zA4 (za zA5 ze)))))) (by kernel_rfl)
def zod:=spA d [] 113 1 f113 Gj [(.ret,⟨[(0,.row 0)],[.row 86]⟩)] (hfind [(8,.loop ⟨Kg,[c7,.row 86]⟩ [(.exit 0,⟨[(5,.row 0)],[.row 86]⟩)]),(19,.cut [(.normal,⟨Kg,[c7,.row 86]⟩)])])
theorem zA6:zod.OK prog:=kA ze (by kernel_rfl)
def zhg:=spA d [] 114 1 f114 ⟨[(0,.sl 171),(1,.str)],[]⟩ Jy (hfind [(6,.loop ⟨[(0,.sl 171),(1,.str),(5,ii)],[]⟩ KO)])
theorem zsQ:zhg.OK prog:=kA ze (by kernel_rfl)
def zoe:=spA d [] 115 1 f115 ⟨[(0,.sl 86),(1,.str)],[]⟩ Jy (hfind [(6,.loop ⟨[(0,.sl 86),(1,.str),(5,ii)],[]⟩ KO),(16,.cut [(.normal,⟨[(0,.sl 86),(1,.str),(5,ii),(27,.bool)],[]⟩)])])
theorem zA7:zoe.OK prog:=kA ze (by kernel_rfl)
def zof:=spA d [] 116 1 f116 H7 [(.ret,⟨[(0,.row 0)],[.row 231]⟩)] (hfind [(7,.cut Hb),(12,.cut [(.normal,⟨[(0,.str),(1,ii),(2,ii),(3,ii),(4,ii),(11,.row 0),(29,.bool)],[.row 231]⟩)]),(13,.cut Hb),(19,.cut [(.normal,⟨[(11,.row 0)],[.row 231]⟩)])])
theorem zA8:zof.OK prog:=kA ze (by kernel_rfl)
def zsR:=spA d [zod,zhg,zoe,zof] 56 3 f56 ⟨[(0,.row 0),(1,.val 86)],[.row 171]⟩ [(.ret,⟨[(0,.val 171),(1,ii),(2,ii)],[.row 171]⟩)] (hfind [(17,.draw (od [1,3,5,6,9,11]) []),(25,.draw (od [1,3,5,6,9,11]) []),(32,.loop KL [Jp,(.exit 0,⟨[(0,.row 0),(4,.pc 1 0),(7,.row 2),(8,.row 3),(9,.pc 4 0),(10,.pc 5 0)],JF⟩)]),(40,.cut [Jp,(.normal,KL)]),(47,.loop ⟨[(0,.row 0),(4,.pc 1 0),(7,.row 2),(8,.row 3),(9,.pc 4 0),(10,.pc 5 0),(12,ii),(13,.pc 6 0),(14,ii)],Kk⟩ [Jp,(.exit 2,⟨[(0,.row 0),(4,.pc 1 0),(7,.row 2),(8,.row 3),(9,.pc 4 0),(10,.pc 5 0),(12,ii),(13,.pc 6 0)],Kk⟩)]),(57,.draw (od [1,3,5,7,9,11,13,15]) []),(60,.draw (od [1,3,5,6,9,11]) []),(69,.cut [Jp,(.normal,⟨[(0,.row 0),(4,.pc 1 0),(7,.row 2),(8,.row 3),(9,.pc 4 0),(10,.pc 5 0),(12,ii),(13,.pc 6 0),(15,ii)],Kk⟩)]),(73,.cut [(.normal,⟨[(0,.row 0),(4,.pc 1 0),(7,.row 2),(8,.row 3),(9,.pc 4 0),(10,.pc 5 0),(12,ii),(13,.pc 6 0),(15,ii),(93,.bool)],Kk⟩)]),(76,.draw (od [1,3,5,6,9,11]) []),(90,.cut [JB,Jp]),(95,.cut [(.normal,⟨[(0,.row 0),(4,.pc 1 0),(7,.row 2),(8,.row 3),(9,.pc 4 0),(10,.pc 5 0),(16,ii),(107,.str),(111,.bool)],JF⟩)]),(98,.cut [Jp,JB]),(104,.cut [(.normal,⟨[(4,.pc 1 0),(7,.row 2),(8,.row 3),(9,.pc 4 0),(10,.pc 5 0)],JF⟩)]),(114,.draw (od [1,3,5,6,9,11]) []),(120,.cut [Jp,JB]),(130,.draw (od [1,3,5,6,9,11]) []),(138,.draw (od [1,3,5,6,9,11]) []),(142,.cut [(.normal,⟨[(4,.pc 1 0),(7,.row 2),(8,.row 3),(9,.pc 4 0),(10,.pc 5 0),(16,ii),(167,.bool)],JF⟩)]),(145,.draw (od [1,3,5,6,9,11]) []),(153,.loop JS [Kh,(.exit 5,⟨[(4,.pc 1 0),(10,.pc 2 0)],[.row 171,c10,.cell [.str,ii,ii,.row 3,.row 4],.row 228,.row 231]⟩)]),(168,.loop KE [Kh,(.exit 7,⟨[(4,.pc 1 0),(7,.row 2),(8,.row 3),(10,.pc 4 0),(16,ii),(17,ii),(18,.row 5)],JM⟩)]),(176,.cut [(.normal,KE),Kh]),(189,.cut [(.normal,⟨[(4,.pc 1 0),(7,.row 2),(8,.row 3),(10,.pc 4 0),(16,ii),(17,ii),(18,.row 5),(19,ii),(21,ii),(202,.bool)],JM⟩)]),(192,.draw (od [1,3,5,7,9,11,12,15,17]) []),(198,.draw (od [1,3,5,7,9,11,13,15,17,19,21,23,25,27,29,31,33,35,37,39,41,43,45,47,49,51,53,54,57]) []),(202,.loop ⟨[(4,.pc 1 0),(7,.row 2),(8,.row 3),(10,.pc 4 0),(16,ii),(17,ii),(22,.row 5),(23,ii)],[.row 171,c10,.row 86,.row 86,c32,.row 231,.row 228,.row 231]⟩ [(.exit 9,JS)]),(211,.draw (od [1,3,5,7,9,11,12,14,17,18]) [])])
theorem zA9:zsR.OK prog:=kA (za zA6 (za zsQ (za zA7 (za zA8 ze)))) (by kernel_rfl)
def zsS:=spA d [zsR] 21 3 f21 KC [(.ret,⟨Kl,[.row 171]⟩)] (hfind [(8,.loop Hz [JK,(.exit 0,⟨[(5,.row 0)],[.row 171]⟩)]),(16,.cut [(.normal,Hz),JK])])
theorem zBa:zsS.OK prog:=kA (za zA9 ze) (by kernel_rfl)
def zsT:=spA d [zhg] 117 2 f117 Hi [(.ret,⟨[(0,.val 175),(1,.bool)],[]⟩)] (hfind [(10,.cut J9),(14,.cut J9),(18,.cut J9),(22,.cut J9),(28,.cut [(.ret,⟨[(4,.pc 0 0),(5,.bool)],[c12]⟩),(.normal,⟨HY,[c12,c12]⟩)])])
theorem zBb:zsT.OK prog:=kA (za zsQ ze) (by kernel_rfl)
def zsU:=spA d [zsT] 57 3 f57 Hi [(.ret,⟨[(0,.val 177),(1,ii),(2,ii)],[]⟩)] (hfind [(11,.draw (od [1,3,5,6,9,11]) []),(18,.loop KG [J3,(.exit 0,⟨[(1,.sl 171),(2,.pc 0 0),(4,.pc 1 0),(7,.pc 2 0),(8,ii)],[c7,c17,c34,.row 175]⟩)]),(26,.cut [J3,(.normal,KG)]),(33,.loop ⟨[(1,.sl 171),(2,.pc 0 0),(4,.pc 1 0),(7,.pc 2 0),(8,ii),(9,ii),(10,.pc 3 0),(11,ii)],[c7,c17,c44,c7,.row 175]⟩ [J3,(.exit 2,⟨[(1,.sl 171),(2,.pc 0 0),(4,.pc 1 0),(7,.pc 2 0),(8,ii),(9,ii),(10,.pc 3 0)],[c7,c17,c44,c7,.row 175]⟩)]),(43,.draw (od [1,3,5,7,9,11,13,15,17]) []),(46,.draw (od [1,3,5,6,9,11]) []),(57,.draw (od [1,3,5,7,9,11,12,15,17]) []),(64,.loop ⟨[(1,.sl 171),(2,.pc 0 0),(4,.pc 1 0),(7,.pc 2 0),(8,ii),(9,ii),(10,.pc 3 0),(12,.pc 4 0),(14,ii)],HK⟩ [J3,(.exit 4,⟨[(1,.sl 171),(2,.pc 0 0),(4,.pc 1 0),(7,.pc 2 0),(8,ii),(9,ii),(10,.pc 3 0),(12,.pc 4 0)],HK⟩)]),(76,.cut [(.normal,⟨[(1,.sl 171),(2,.pc 0 0),(4,.pc 1 0),(7,.pc 2 0),(8,ii),(9,ii),(10,.pc 3 0),(12,.pc 4 0),(14,ii),(107,.bool)],HK⟩)]),(79,.draw (od [1,3,5,7,9,11,12,15,17]) []),(94,.draw (od [1,3,5,7,9,11,13,14,17,19]) [])])
theorem zBc:zsU.OK prog:=kA (za zBb ze) (by kernel_rfl)
def zsV:=spA d [zsU] 22 3 f22 Hi [(.ret,⟨Kl,[.row 177]⟩)] (hfind [(8,.loop Hl [Ku,(.exit 0,⟨[(7,.row 0)],[.row 177]⟩)]),(16,.cut [(.normal,Hl),Ku])])
theorem zBd:zsV.OK prog:=kA (za zBc ze) (by kernel_rfl)
def zkS:=spA d [] 78 0 f78 ⟨[(0,.pc 0 0),(1,.bool),(2,ii)],HS⟩ [Ju,(.ret,⟨[],HS⟩)] (hfind [])
theorem zye:zkS.OK prog:=kA ze (by kernel_rfl)
def zog:=spA d [zkS] 33 0 f33 ⟨Ge,HS⟩ [Ju,(.ret,⟨[],HS⟩)] (hfind [])
theorem zyf:zog.OK prog:=kA (za zye ze) (by kernel_rfl)
def zoh:=spA d [] 77 1 f77 ⟨Hp,[c23]⟩ Kt (hfind [])
theorem zBe:zoh.OK prog:=kA ze (by kernel_rfl)
def zsW:=spA d [zoh] 76 1 f76 ⟨[(0,.sl 47),(1,.clo 77 [.pc 0 0])],[c23]⟩ Ha (hfind [(6,.loop ⟨[(0,.sl 47),(1,.clo 77 [.pc 0 0]),(7,ii),(8,ii)],[c23]⟩ JW)])
theorem zBf:zsW.OK prog:=kA (za zBe ze) (by kernel_rfl)
def zdc:=spA d [zsW] 31 1 f31 ⟨[(0,.val 53),(1,.str)],[]⟩ Jy (hfind [])
theorem zhh:zdc.OK prog:=kA (za zBf ze) (by kernel_rfl)
def zsX:=spA d [zog,zdc,P54,zkS] 34 1 f34 ⟨JL,HS⟩ [Ju,(.ret,⟨[(0,.agg [.str,ii,.row 2])],[c15,.forow 53,.row 47]⟩)] (hfind [(12,.loop Ko [Ju,(.exit 0,⟨HD,[c15,.forow 53,c5,c25,c48,.row 47]⟩)]),(20,.cut [Ju,(.normal,Ko)]),(26,.draw (od [1,3,5,7,9,10,13,14]) []),(28,.cut [Ju,(.normal,⟨[(0,.pc 0 0),(3,.pc 2 0),(4,.pc 3 0),(5,ii),(6,.pc 4 0),(8,.pc 5 0),(9,.pc 6 0),(27,.sl 35),(28,ii),(29,ii)],[c15,.forow 53,c5,c25,c53,c5,c5,.row 47]⟩)]),(34,.cut [Ju,(.normal,⟨[(0,.pc 0 0),(3,.pc 2 0),(4,.pc 3 0),(5,ii),(6,.pc 4 0),(10,.pc 5 0),(27,.sl 35),(28,ii),(29,ii)],[c15,.forow 53,c5,c25,c56,c8,.row 47]⟩)]),(36,.draw (od [1,3,5,7,9,11,13,15,17,21,18,22,25,26]) []),(42,.draw (od [1,3,5,7,9,11,13,15,17,19,21,23,25,26]) [])])
theorem zBg:zsX.OK prog:=kA (za zyf (za zhh (za K54 (za zye ze)))) (by kernel_rfl)
def Wz:=spA d [] 78 0 f78 ⟨[(0,.pc 0 0),(1,.bool),(2,ii)],J0⟩ [Jc,Hx] (hfind [])
theorem zbR:Wz.OK prog:=kA ze (by kernel_rfl)
def zoi:=spA d [zdc,Wz] 128 1 f128 ⟨Kn,J0⟩ [Jc,HJ] (hfind [])
theorem zyg:zoi.OK prog:=kA (za zhh (za zbR ze)) (by kernel_rfl)
def zoj:=spA d [] 129 1 f129 ⟨[(0,.val 49),(1,.pc 0 0)],[c5]⟩ [(.ret,⟨[(0,.bool)],[c5]⟩)] (hfind [])
theorem zBh:zoj.OK prog:=kA ze (by kernel_rfl)
def zsY:=spA d [zoj] 91 1 f91 ⟨[(0,.sl 49),(1,.clo 129 [.pc 0 0])],[c5]⟩ [(.ret,⟨[(0,ii)],[c5]⟩)] (hfind [(6,.loop ⟨[(0,.sl 49),(1,.clo 129 [.pc 0 0]),(7,ii),(8,ii)],[c5]⟩ [(.ret,⟨[(4,ii)],[c5]⟩),(.exit 0,⟨[],[c5]⟩)])])
theorem zBi:zsY.OK prog:=kA (za zBh ze) (by kernel_rfl)
def zhi:=spA d [Wz,zoi] 85 0 f85 ⟨[(0,.pc 0 0),(1,.val 35),(2,.val 47)],J0⟩ [Jc,Hx] (hfind [(15,.cut [Jc,H9]),(18,.cut [(.normal,⟨[(0,.pc 0 0),(4,.pc 2 0),(5,.pc 3 0),(6,.pc 4 0),(47,.bool)],Gb⟩)]),(19,.cut [Jc,H9]),(20,.cut [Jc,H9]),(21,.cut [Jc,H9])])
theorem zsZ:zhi.OK prog:=kA (za zbR (za zyg ze)) (by kernel_rfl)
def zs0:=spA d [Wz,zhi] 84 0 f84 ⟨[(0,.pc 0 0),(1,.sl 35),(2,.sl 47)],J0⟩ [Jc,Hx] (hfind [(5,.loop ⟨[(0,.pc 0 0),(2,.sl 47),(15,.sl 35),(16,ii),(17,ii)],J0⟩ [Jc,(.exit 0,⟨[],J0⟩)]),(16,.draw (od [1,3,5,7,9,11,12]) [])])
theorem zBj:zs0.OK prog:=kA (za zbR (za zsZ ze)) (by kernel_rfl)
def zkT:=spA d [zsY,Wz,zs0] 82 1 f82 ⟨JL,J0⟩ [Jc,HJ] (hfind [(7,.draw (od [1,3,5,7,9,11,13,15,17,19,21,22]) [])])
theorem zyh:zkT.OK prog:=kA (za zBi (za zbR (za zBj ze))) (by kernel_rfl)
def zok:=spA d [zoi,Wz,zkT] 81 1 f81 ⟨JL,J0⟩ [HJ,Jc] (hfind [(10,.cut [Kr,Jc,JG]),(22,.cut [Jc,(.normal,⟨[(4,.pc 2 0),(6,.pc 3 0)],Gq⟩)]),(29,.cut [(.normal,⟨[(0,.pc 0 0),(3,.pc 2 0),(4,.pc 3 0),(5,.pc 4 0),(13,ii),(35,.bool)],Gb⟩)]),(32,.cut [Jc,Kr,JG]),(34,.draw (od [1,3,5,7,9,11,15,17,19,21,23,25,12,26,28,30,32,34]) [Jc,(.normal,⟨[(0,.pc 0 0),(4,.pc 2 0),(5,.pc 3 0),(7,.pc 4 0),(8,.pc 5 0)],[c0,.forow 53,c8,c8,c8,c8]⟩)]),(36,.cut [Jc,(.normal,⟨[(4,.pc 2 0),(5,.pc 3 0)],Gq⟩)]),(43,.cut [(.normal,⟨[(0,.pc 0 0),(3,.pc 2 0),(4,.pc 3 0),(5,.pc 4 0),(13,ii),(63,.bool)],Gb⟩)]),(46,.cut [Jc,Kr,JG]),(56,.cut [(.normal,⟨[(4,.pc 2 0),(9,.pc 3 0)],Gq⟩)]),(64,.cut [Jc,Kr,JG])])
theorem zBk:zok.OK prog:=kA (za zyg (za zbR (za zyh ze))) (by kernel_rfl)
def zol:=spA d [zdc,Wz] 80 0 f80 ⟨[(0,.pc 0 0),(1,.str),(2,.val 47)],[c0,.orow 53]⟩ [JH,(.ret,HO)] (hfind [(11,.draw (od [1,3,5,7,9,11,13,15,17,19,21,23,25,26]) []),(14,.draw (od [1,3,5,7,9,11,13,15,17,19,21,23,24,26,29,31,32]) [])])
theorem zBl:zol.OK prog:=kA (za zhh (za zbR ze)) (by kernel_rfl)
def zom:=spA d [] 83 1 f83 ⟨[(0,.val 53),(1,.pz 35 0)],[]⟩ Jj (hfind [])
theorem zBm:zom.OK prog:=kA ze (by kernel_rfl)
def zon:=spA d [zom] 39 1 f39 ⟨[(0,.row 0),(1,.clo 83 [.pc 1 0])],HX⟩ [(.ret,⟨[(0,ii)],HX⟩)] (hfind [(6,.loop ⟨[(0,.row 0),(1,.clo 83 [.pc 1 0]),(7,ii),(8,ii)],HX⟩ [(.ret,⟨[(4,ii)],HX⟩),(.exit 0,⟨[],HX⟩)])])
theorem zBn:zon.OK prog:=kA (za zBm ze) (by kernel_rfl)
def zoo:=spA d [Wz,zhi] 84 0 f84 ⟨[(0,.pc 0 0),(1,.sl 35),(2,.nxp 1 53 47)],J0⟩ [Jc,Hx] (hfind [(5,.loop ⟨[(0,.pc 0 0),(2,.nxp 1 53 47),(15,.sl 35),(16,ii),(17,ii)],J0⟩ [Jc,(.exit 0,⟨[],J0⟩)]),(16,.draw (od [1,3,5,7,9,11,12]) [])])
theorem zBo:zoo.OK prog:=kA (za zbR (za zsZ ze)) (by kernel_rfl)
def Vt:Sig:=⟨[(0,.pc 0 0),(1,.sl 35)],J0⟩
def Vu:List (XK×Sig):=[JH,(.ret,HO)]
def zyi:Nat->Us Hint:=hfind [(5,.loop JT [JH,(.exit 0,HO)]),(23,.cut Jd),(24,.draw (od [1,3,5,7,9,11,13,15,16,18]) Jd),(27,.cut Jd),(31,.cut Jd),(36,.draw (od [1,3,5,7,9,11,13,15,17,19,21,23,25,27,29,31,33,35,37,39,40]) []),(40,.cut [(.normal,⟨[(0,.pc 0 0),(4,.pc 2 0),(6,.pc 3 0),(11,.sl 35),(12,ii),(13,ii),(23,ii),(79,.bool)],[c0,.orow 53,c8,c5]⟩)]),(43,.cut Jd),(45,.draw (od [1,3,5,7,9,11,12]) []),(47,.draw (od [1,3,5,7,9,11,12]) []),(51,.loop ⟨[(0,.pc 0 0),(4,.pc 2 0),(11,.sl 35),(12,ii),(13,ii),(98,.sl 35),(99,ii),(100,ii)],[c0,.orow 53,c8]⟩ [JH,(.exit 3,JT)]),(66,.cut Jd),(70,.cut [(.normal,JT),JH])]
def zop(h:Vt.ty CC->Us (zi CC Vu)):Spec CC:=⟨35,0,Vt,Vu,h⟩
def ziG(h:Vt.ty CC->Us (zi CC Vu))(x:Vt.ty CC):Us (zi CC Vu):=XY ⟨d⟩ [zok,zol,zkT,zon,Wz,zoo,zhi,zop h] lpO prog f35 0 Vt Vu zyi x
def zAn(h:Vt.ty CC->Us (zi CC Vu)):Spec CC:=⟨35,0,Vt,Vu,ziG h⟩
theorem zAo{h:Vt.ty CC->Us (zi CC Vu)}(hh:Spec.OK prog (zop h)):Spec.OK prog (zAn h):=yE (za zBk (za zBl (za zyh (za zBn (za zbR (za zBo (za zsZ (za hh ze)))))))) ZG ZF zyi (by kernel_rfl) (by kernel_rfl) (by kernel_rfl) λx=>rfl
def zf3:Nat->Vt.ty CC->Us (zi CC Vu)
  |0=>λ_=>m
  |k+1=>ziG (zf3 k)
theorem zuR:∀k,Spec.OK prog (zop (zf3 k))
  |0=>⟨f35,by kernel_rfl,by kernel_rfl,by kernel_rfl,λx r h=>by cases h⟩
  |k+1=>zAo (zuR k)
def zyj(x:Vt.ty CC):Us (zi CC Vu):=zf3 100000 x
def zyk:Spec CC:=⟨35,0,Vt,Vu,zyj⟩
theorem zBp:Spec.OK prog zyk:=zuR 100000
def zkU:=spA d [] 161 1 f161 Kd [(.ret,Kd)] (hfind [])
theorem zBq:zkU.OK prog:=kA ze (by kernel_rfl)
def zhj:=spA d [] 181 1 f181 Kd [(.ret,G1)] (hfind [])
theorem zs1:zhj.OK prog:=kA ze (by kernel_rfl)
def zfc:=spA d [zhj] 163 1 f163 ⟨[(0,.val 35),(1,ii)],[]⟩ [(.ret,G1)] (hfind [])
theorem zs2:zfc.OK prog:=kA (za zs1 ze) (by kernel_rfl)
def zkV:=spA d [zhj] 164 1 f164 Kd [(.ret,⟨[(0,.row 0)],[.row 68]⟩)] (hfind [(8,.loop ⟨[(3,.row 0),(7,.sl 35),(8,ii),(9,ii)],[.row 68]⟩ [(.exit 0,⟨[(3,.row 0)],[.row 68]⟩)])])
theorem zyl:zkV.OK prog:=kA (za zs1 ze) (by kernel_rfl)
def zbS:=spA d [] 87 1 f87 ⟨[(0,.pc 0 0),(1,.val 71)],[c24,.row 71]⟩ [(.ret,⟨[(0,ii)],[c47,.gone,.row 71]⟩)] (hfind [(3,.draw (od [1,3,5,7,9,11,12,14,17,19,20]) [])])
theorem zoq:zbS.OK prog:=kA ze (by kernel_rfl)
def zor:=spA d [zfc,zkV,zhj,zbS] 160 0 f160 ⟨[(0,.pc 0 0),(1,.val 35),(2,.val 35)],[c24,.row 71]⟩ [(.ret,JQ)] (hfind [(11,.cut [(.normal,⟨[(0,.pc 0 0),(5,.pc 2 0),(6,.pc 3 0),(13,ii),(17,.bool)],Gx⟩)]),(14,.cut J1),(15,.draw (od [1,3,5,7,9,13,17,10,14,18,21,22,25,26]) []),(18,.cut J1),(19,.draw (od [1,3,5,7,8,11,12]) []),(22,.cut J1),(23,.draw (od [1,3,5,7,8,11,12]) []),(26,.cut J1),(27,.draw (od [1,3,5,9,6,10,13,14,17,18]) []),(30,.cut J1),(31,.draw (od [1,3,5,9,6,10,13,14,17,18]) []),(35,.cut [(.normal,⟨[(0,.pc 0 0),(5,.pc 2 0),(6,.pc 3 0),(63,.bool)],Gx⟩)]),(38,.cut [(.normal,⟨[(0,.pc 0 0),(6,.pc 2 0)],[c24,.row 71,c6]⟩)])])
theorem zBr:zor.OK prog:=kA (za zs2 (za zyl (za zs1 (za zoq ze)))) (by kernel_rfl)
def zs3:Sig:=⟨JL,[c24,.row 71]⟩
def zs4:List (XK×Sig):=[(.ret,JQ)]
def zym:Nat->Us Hint:=hfind [(9,.draw (od [1,3,5,7,9,11,15,12,16,19,20,23]) []),(15,.draw (od [1,3,5,7,9,11,13,15,17,19,21,23,24]) []),(17,.cut [(.normal,⟨[(0,.pc 0 0),(3,.pc 2 0),(5,ii),(53,.bool)],[c51,.gone,c5,.row 71]⟩)]),(18,.cut [(.normal,JQ)]),(21,.draw (od [1,3,5,7,9,11,13,15,17,19,21,23,24]) [])]
def zs5:Sig:=⟨JL,[c24,.row 71]⟩
def zs6:List (XK×Sig):=[(.ret,JQ)]
def zyn:Nat->Us Hint:=hfind [(10,.cut [(.ret,JQ),Jm]),(12,.draw (od [1,3,5,6,8]) []),(17,.cut [(.normal,⟨[(0,.pc 0 0),(3,.pc 2 0),(4,.pc 3 0),(11,ii),(21,.bool)],Gx⟩)]),(26,.cut [Jm]),(27,.draw (od [1,5,9,2,6,10,13,14,17,18]) []),(30,.cut [Jm]),(34,.cut [Jm]),(35,.draw (od [1,3,5,7,8,11,12]) []),(38,.cut [Jm]),(39,.draw (od [1,3,5,7,8,11,12]) []),(42,.cut [Jm]),(43,.draw (od [1,7,13,2,5,8,10,14,17,18,21,22]) []),(46,.cut [Jm]),(50,.cut [(.normal,⟨[(0,.pc 0 0),(4,.pc 2 0)],[c24,.row 71,c6]⟩)]),(51,.draw (od [1,3,5,7,9,13,10,14,17,18,21,22,25,26]) [])]
def Xx:Sig:=⟨JL,[c24,.row 71]⟩
def Xy:List (XK×Sig):=[(.ret,JQ)]
def zyo:Nat->Us Hint:=hfind [(5,.loop ⟨[(0,.pc 0 0),(7,.sl 35),(8,ii),(9,ii)],[c47,.gone,.row 71]⟩ [(.exit 0,JQ)])]
def zf4(h:Xx.ty CC->Us (zi CC Xy)):Spec CC:=⟨86,0,Xx,Xy,h⟩
def ziH(h:Xx.ty CC->Us (zi CC Xy))(x:zs3.ty CC):Us (zi CC zs4):=XY ⟨d⟩ [zfc,zbS,zf4 h] lpO prog f162 0 zs3 zs4 zym x
def zuS(h:Xx.ty CC->Us (zi CC Xy)):Spec CC:=⟨162,0,zs3,zs4,ziH h⟩
theorem zAp{h:Xx.ty CC->Us (zi CC Xy)}(hh:Spec.OK prog (zf4 h)):Spec.OK prog (zuS h):=yE (za zs2 (za zoq (za hh ze))) ZG ZF zym (by kernel_rfl) (by kernel_rfl) (by kernel_rfl) λx=>rfl
def ziI(h:Xx.ty CC->Us (zi CC Xy))(x:zs5.ty CC):Us (zi CC zs6):=XY ⟨d⟩ [zkU,zor,zuS h,zfc,zkV,zbS] lpO prog f130 0 zs5 zs6 zyn x
def zuT(h:Xx.ty CC->Us (zi CC Xy)):Spec CC:=⟨130,0,zs5,zs6,ziI h⟩
theorem zAq{h:Xx.ty CC->Us (zi CC Xy)}(hh:Spec.OK prog (zf4 h)):Spec.OK prog (zuT h):=yE (za zBq (za zBr (za (zAp hh) (za zs2 (za zyl (za zoq ze)))))) ZG ZF zyn (by kernel_rfl) (by kernel_rfl) (by kernel_rfl) λx=>rfl
def ziJ(h:Xx.ty CC->Us (zi CC Xy))(x:Xx.ty CC):Us (zi CC Xy):=XY ⟨d⟩ [zuT h] lpO prog f86 0 Xx Xy zyo x
def zAr(h:Xx.ty CC->Us (zi CC Xy)):Spec CC:=⟨86,0,Xx,Xy,ziJ h⟩
theorem zAs{h:Xx.ty CC->Us (zi CC Xy)}(hh:Spec.OK prog (zf4 h)):Spec.OK prog (zAr h):=yE (za (zAq hh) ze) ZG ZF zyo (by kernel_rfl) (by kernel_rfl) (by kernel_rfl) λx=>rfl
def zf5:Nat->Xx.ty CC->Us (zi CC Xy)
  |0=>λ_=>m
  |k+1=>ziJ (zf5 k)
theorem zuU:∀k,Spec.OK prog (zf4 (zf5 k))
  |0=>⟨f86,by kernel_rfl,by kernel_rfl,by kernel_rfl,λx r h=>by cases h⟩
  |k+1=>zAs (zuU k)
def zyp(x:Xx.ty CC):Us (zi CC Xy):=zf5 100000 x
def zyq:Spec CC:=⟨86,0,Xx,Xy,zyp⟩
theorem zBs:Spec.OK prog zyq:=zuU 100000
def zos:=spA d [zyq,zbS] 36 1 f36 Kd [(.ret,⟨[(0,.val 61)],[]⟩)] (hfind [(18,.loop JJ [(.exit 0,⟨[(2,.pc 0 0),(3,.pc 1 0),(4,.pc 2 0)],[c39,c37,c40,.row 9,.row 71]⟩)]),(34,.cut [(.normal,JJ)]),(38,.cut [(.normal,JJ)])])
theorem zyr:zos.OK prog:=kA (za zBs (za zoq ze)) (by kernel_rfl)
def zs7:=spA d [Wz] 33 0 f33 ⟨Ge,J0⟩ [Jc,Hx] (hfind [])
theorem zBt:zs7.OK prog:=kA (za zbR ze) (by kernel_rfl)
def zs8:Sig:=⟨[(0,.pc 0 0),(1,.pc 1 0),(2,.pc 2 0),(3,.ifc 112 (.agg [ii,ii]))],Ga⟩
def zs9:List (XK×Sig):=[(.ret,⟨[],[c28,c11,c11,.forow 53]⟩)]
def zys:Nat->Us Hint:=hfind [(5,.draw (od [1,3,5,7,8,10,12]) [])]
def zta(x:zs8.ty CC):Us (zi CC zs9):=zbJ ⟨d⟩ [] lpO prog f32 0 zs8 zs9 zys x
def zyt:Spec CC:=⟨32,0,zs8,zs9,zta⟩
theorem zBu:Spec.OKD prog zyt:=vP ze ZG ZF zys (by kernel_rfl) (by kernel_rfl) (by kernel_rfl) λx=>rfl
def ztb:Sig:=⟨KQ,Ga⟩
def ztc:List (XK×Sig):=[(.ret,⟨[],Ga⟩)]
def zyu:Nat->Us Hint:=hfind []
def ztd(x:ztb.ty CC):Us (zi CC ztc):=zbJ ⟨d⟩ [] lpO prog f32 0 ztb ztc zyu x
def zyv:Spec CC:=⟨32,0,ztb,ztc,ztd⟩
theorem zBv:Spec.OKD prog zyv:=vP ze ZG ZF zyu (by kernel_rfl) (by kernel_rfl) (by kernel_rfl) λx=>rfl
def zte:Sig:=⟨[(0,.val 35),(1,.sl 49),(2,.sl 80)],[]⟩
def ztf:List (XK×Sig):=[(.ret,⟨Kl,[.orow 53]⟩)]
def zyw:Nat->Us Hint:=hfind [(3,.loop ⟨[(1,.sl 49),(2,.sl 80),(3,.pc 0 0),(6,.pc 1 0),(7,.pc 2 0),(8,.pc 3 0),(14,.clo 32 [.pc 1 0,.pc 2 0,.pc 3 0])],[c5,c28,c11,c11]⟩ []),(10,.loop J4 [Jh,(.exit 0,⟨[(3,.pc 0 0),(6,.pc 1 0),(7,.pc 2 0),(8,.pc 3 0),(9,.pc 4 0)],[c5,c28,c11,c11,c36,.orow 53]⟩)]),(18,.cut [Jh,(.normal,J4)]),(23,.draw (od [1,3,5,7,11,13,8718,8720,16,8,18,21,23,24,14,16,18,21,23,24]) [Jh,(.normal,J4)]),(29,.loop ⟨[(6,.pc 1 0),(7,.pc 2 0),(8,.pc 3 0),(9,.pc 4 0),(46,.sl 35),(47,ii),(48,ii)],Hy⟩ [Jh,(.exit 2,⟨[(6,.pc 1 0),(7,.pc 2 0),(8,.pc 3 0),(9,.pc 4 0)],Hy⟩)]),(37,.cut [Jh,(.normal,JR)]),(44,.draw (od [1,3,5,7,9,11,13,15,17,19,21,23,25,26,29,31,33,35,36]) [Jh,(.normal,JR)])]
def zyx(x:zte.ty CC):Us (zi CC ztf):=zg7 ⟨d⟩ [zog,zsX,zyk,zos,zs7] (zyv) (zyt) lpO prog f9 3 zte ztf zyw x
def zyy:Spec CC:=⟨9,3,zte,ztf,zyx⟩
theorem zBw:Spec.OK prog zyy:=zg8 (za zyf (za zBg (za zBp (za zyr (za zBt ze))))) zBv zBu ZG ZF zyw (by kernel_rfl) (by kernel_rfl) (by kernel_rfl) λx=>rfl
def ztg:=spA d [P50,P70,P80,zoc,zsS,zsV] 88 2 f88 JV [(.ret,⟨[(0,.val 123),(1,.bool)],[]⟩)] (hfind [(28,.loop JN [(.exit 0,⟨[(2,.pc 0 0),(9,ii),(10,.row 1),(12,ii),(19,.row 2),(22,.pc 3 0)],[c19,.row 49,.row 177,.cell [.row 4,.sl 80,.row 1,.row 5,.sl 171,.row 2],.row 35,.row 86]⟩)]),(41,.cut [(.normal,JN)]),(44,.draw (od [1,3,5,7,9,11,13,14,16,19,20]) []),(48,.draw (od [1,3,5,7,9,11,13,15,17,19,21,23,25,27,29,31,33,35,37,39,41,43,45,46,49]) [(.normal,⟨[(2,.pc 0 0),(3,.bool)],[.cell [.row 1,.sl 80,.row 2,.row 3,.sl 171,.row 4],.row 35,.row 49,.row 86,.row 177]⟩)])])
theorem zBx:ztg.OK prog:=kA (za K50 (za K70 (za K80 (za zyd (za zBa (za zBd ze)))))) (by kernel_rfl)
def zfd:=spA d [] 131 0 f131 ⟨HT,KI⟩ [(.ret,⟨[],KI⟩)] (hfind [(2,.cut [(.normal,⟨[],KI⟩)])])
theorem zth:zfd.OK prog:=kA ze (by kernel_rfl)
def zot:=spA d [] 165 1 f165 ⟨Kn,[c49,.row 175]⟩ [(.ret,⟨[(0,ii)],[c49,.row 175]⟩)] (hfind [(6,.loop ⟨[(0,.pc 0 0),(1,.str),(5,ii)],[c49,.row 175]⟩ [(.ret,⟨[(4,ii)],[c49,.row 175]⟩),(.exit 0,⟨[],[c49,.row 175]⟩)])])
theorem zBy:zot.OK prog:=kA ze (by kernel_rfl)
def zti:=spA d [zfd,zot,zhg] 132 1 f132 ⟨[(0,.pc 0 0),(1,.val 86)],KI⟩ [(.ret,⟨[(0,.agg [.str,ii,.row 2])],[c4,.forow 137,.row 175]⟩)] (hfind [(20,.loop ⟨[(0,.pc 0 0),(3,.pc 2 0),(4,.pc 3 0),(5,ii),(6,.pc 4 0),(7,ii)],Gv⟩ [(.exit 0,⟨HD,Gv⟩)]),(38,.cut [(.normal,⟨[(0,.pc 0 0),(3,.pc 2 0),(4,.pc 3 0),(5,ii),(6,.pc 4 0),(7,ii),(8,.pc 5 0),(9,.pc 6 0)],[c4,.forow 137,c7,c25,c53,c7,c7,.row 175]⟩)]),(45,.cut [(.normal,⟨[(0,.pc 0 0),(3,.pc 2 0),(4,.pc 3 0),(5,ii),(6,.pc 4 0),(7,ii),(9,.pc 5 0),(11,.pc 6 0),(60,.bool)],Gd⟩)]),(46,.cut [(.normal,⟨[(0,.pc 0 0),(3,.pc 2 0),(4,.pc 3 0),(5,ii),(6,.pc 4 0),(7,ii),(9,.pc 5 0),(11,.pc 6 0)],Gd⟩)]),(52,.cut Kq),(56,.draw (od [1,3,5,7,9,11,13,15,17,18,21,22]) []),(59,.cut Kq),(68,.cut [(.normal,⟨[(4,.pc 2 0),(6,.pc 3 0)],[c4,.forow 137,c25,.cell [.str,ii,.row 4],.row 175]⟩)])])
theorem zBz:zti.OK prog:=kA (za zth (za zBy (za zsQ ze))) (by kernel_rfl)
def zkW:=spA d [] 165 1 f165 HG KF (hfind [(6,.loop ⟨[(0,.pr 0 137 0),(1,.str),(5,ii)],[.forow 137]⟩ [(.ret,⟨[(4,ii)],[.forow 137]⟩),H6])])
theorem zyz:zkW.OK prog:=kA ze (by kernel_rfl)
def zou:=spA d [zkW] 194 2 f194 HG [(.ret,⟨[(0,.val 175),(1,ii)],[.forow 137]⟩)] (hfind [(13,.draw (od [1,3,5,7,9,11,13,15,17,19,21,23,25,27,29,31,33,34,37]) [])])
theorem zyA:zou.OK prog:=kA (za zyz ze) (by kernel_rfl)
def zkX:=spA d [zou] 185 1 f185 ⟨[(0,.pr 0 137 0),(1,.val 86),(2,.val 175)],[.forow 137]⟩ KF (hfind [(5,.cut [KM,(.normal,⟨[(0,.pr 0 137 0),(4,.pc 1 0),(5,.pc 2 0)],[.forow 137,c7,c12]⟩)]),(31,.cut [KM,(.normal,⟨[(4,.pc 1 0),(5,.pc 2 0),(7,.pc 3 0)],[.forow 137,c7,c12,c12]⟩)]),(45,.cut [(.normal,⟨[(4,.pc 1 0),(5,.pc 2 0),(7,.pc 3 0),(9,.bool)],[.forow 137,c7,c12,c12]⟩)]),(48,.cut [(.normal,⟨[(60,.bool)],[.forow 137]⟩)])])
theorem ztj:zkX.OK prog:=kA (za zyA ze) (by kernel_rfl)
def ztk:=spA d [zkX] 184 1 f184 ⟨[(0,.pr 0 137 0),(1,.sl 86),(2,.sl 175)],[.forow 137]⟩ KF (hfind [(14,.loop ⟨[(0,.pr 0 137 0),(1,.sl 86),(2,.sl 175),(7,ii)],[.forow 137]⟩ [KM,H6]),(24,.draw (od [1,3,5,7,9,11,13,15,17,18,21]) [])])
theorem zBA:ztk.OK prog:=kA (za ztj ze) (by kernel_rfl)
def zov:=spA d [ztk] 183 2 f183 H5 [(.ret,Gg)] (hfind [(6,.loop ⟨[(0,.pc 0 0),(1,.pr 1 137 0),(5,.pc 2 0),(6,.pc 3 0),(8,ii)],[c4,.forow 137,c7,c12]⟩ [(.ret,⟨[(6,.pc 2 0),(7,ii)],[c4,.forow 137,c12]⟩),(.exit 0,⟨[(6,.pc 2 0)],[c4,.forow 137,c12]⟩)]),(16,.draw (od [1,3,5,7,9,11,13,15,17,19,21]) []),(19,.draw (od [1,3,5,7,9,11,13,15,17,19,21,22,25]) [])])
theorem zyB:zov.OK prog:=kA (za zBA ze) (by kernel_rfl)
def ztl:=spA d [zou,zov] 182 2 f182 H5 [(.ret,Gg)] (hfind [(10,.cut J8),(23,.cut [(.normal,⟨[(6,.pc 2 0),(9,.pc 3 0),(10,ii),(46,.bool)],KX⟩)]),(24,.cut [(.normal,⟨[(6,.pc 2 0),(9,.pc 3 0),(10,ii)],KX⟩)]),(33,.cut [(.normal,⟨[(0,.pc 0 0),(1,.pr 1 137 0),(5,.pc 2 0),(6,.pc 3 0),(8,.pc 4 0),(21,ii),(49,.bool)],[c4,.forow 137,c7,c12,c12]⟩)]),(36,.cut J8),(59,.cut [(.normal,⟨[(6,.pc 2 0),(8,.pc 3 0),(11,.pc 4 0),(87,.bool)],[c4,.forow 137,c12,c12,c12]⟩)]),(71,.cut [(.normal,⟨[(0,.pc 0 0),(1,.pr 1 137 0),(5,.pc 2 0),(6,.pc 3 0),(8,.pc 4 0),(21,ii),(90,.bool)],[c4,.forow 137,c7,c12,c12]⟩)]),(74,.cut J8),(98,.cut [(.normal,⟨[(6,.pc 2 0),(15,.pc 3 0)],KX⟩)]),(111,.cut [(.normal,⟨[(6,.pc 2 0),(17,.pc 3 0),(18,ii),(129,.bool)],KX⟩)]),(112,.cut [(.normal,⟨[(6,.pc 2 0),(17,.pc 3 0),(18,ii)],KX⟩)])])
theorem zBB:ztl.OK prog:=kA (za zyA (za zyB ze)) (by kernel_rfl)
def ztm:=spA d [zkX] 184 1 f184 ⟨[(0,.pr 0 137 0),(1,.sl 86),(2,.nxp 0 137 175)],[.forow 137]⟩ KF (hfind [(14,.loop ⟨[(0,.pr 0 137 0),(1,.sl 86),(2,.nxp 0 137 175),(7,ii)],[.forow 137]⟩ [KM,H6]),(24,.draw (od [1,3,5,7,9,11,13,15,17,18,21]) [])])
theorem zBC:ztm.OK prog:=kA (za ztj ze) (by kernel_rfl)
def zow:=spA d [ztl,zkW,zov,ztm,zkX] 166 1 f166 ⟨[(0,.pc 0 0),(1,.pr 1 137 0),(2,.val 86)],Ke⟩ [(.ret,⟨[(0,ii)],Ke⟩)] (hfind [(10,.cut Jx),(30,.draw (od [1,3,5,7,9,11,12,14,17,19,20]) []),(37,.draw (od [1,3,5,7,9,11,13,15,17]) []),(48,.cut Jx),(56,.cut Jx),(61,.loop ⟨[(0,.pc 0 0),(1,.pr 1 137 0),(5,.pc 2 0),(13,ii)],G5⟩ [(.ret,⟨[(6,ii)],Ke⟩),(.exit 1,⟨[],Ke⟩)]),(71,.draw (od [1,3,5,7,9,11,13,15,17,19,21]) []),(74,.draw (od [1,3,5,7,9,11,13,15,17,19,21,23,25,27,29,31,33,35,37,39,40,43]) []),(84,.cut [(.normal,⟨[(1,.pr 1 137 0),(5,.pc 2 0),(7,.pc 3 0),(17,ii),(117,.bool)],[c4,.orow 137,c7,c12]⟩)]),(87,.cut Jx),(89,.draw (od [1,3,5,7,9,11,12,15]) []),(99,.draw (od [1,3,5,7,9,11,12,15]) []),(103,.cut Jx)])
theorem zBD:zow.OK prog:=kA (za zBB (za zyz (za zyB (za zBC (za ztj ze))))) (by kernel_rfl)
def Vv:Sig:=⟨[(0,.pc 0 0),(1,.pr 1 137 0),(2,.sl 86)],KI⟩
def Vw:List (XK×Sig):=[(.ret,⟨[],Ke⟩)]
def zyC:Nat->Us Hint:=hfind [(3,.loop Ks [(.ret,⟨[],Ke⟩),(.exit 0,⟨[],Ke⟩)]),(6,.cut [(.normal,⟨[(0,.pc 0 0),(1,.pr 1 137 0),(2,.sl 86),(6,ii),(20,.bool)],Ke⟩)]),(25,.cut [(.normal,⟨[(0,.pc 0 0),(1,.pr 1 137 0),(2,.sl 86),(6,ii),(7,.pc 2 0),(45,.bool)],G5⟩)]),(26,.cut [(.normal,Ks)]),(30,.loop ⟨[(0,.pc 0 0),(1,.pr 1 137 0),(2,.sl 86),(6,ii),(7,.pc 2 0),(9,ii)],G5⟩ [(.exit 2,Ks)])]
def zox(h:Vv.ty CC->Us (zi CC Vw)):Spec CC:=⟨133,0,Vv,Vw,h⟩
def ziK(h:Vv.ty CC->Us (zi CC Vw))(x:Vv.ty CC):Us (zi CC Vw):=XY ⟨d⟩ [zow,zfd,zox h] lpO prog f133 0 Vv Vw zyC x
def zAt(h:Vv.ty CC->Us (zi CC Vw)):Spec CC:=⟨133,0,Vv,Vw,ziK h⟩
theorem zAu{h:Vv.ty CC->Us (zi CC Vw)}(hh:Spec.OK prog (zox h)):Spec.OK prog (zAt h):=yE (za zBD (za zth (za hh ze))) ZG ZF zyC (by kernel_rfl) (by kernel_rfl) (by kernel_rfl) λx=>rfl
def zf6:Nat->Vv.ty CC->Us (zi CC Vw)
  |0=>λ_=>m
  |k+1=>ziK (zf6 k)
theorem zuV:∀k,Spec.OK prog (zox (zf6 k))
  |0=>⟨f133,by kernel_rfl,by kernel_rfl,by kernel_rfl,λx r h=>by cases h⟩
  |k+1=>zAu (zuV k)
def zyD(x:Vv.ty CC):Us (zi CC Vw):=zf6 100000 x
def zyE:Spec CC:=⟨133,0,Vv,Vw,zyD⟩
theorem zBE:Spec.OK prog zyE:=zuV 100000
def zdd:=spA d [] 168 1 f168 KC [(.ret,⟨[(0,.val 250)],[]⟩)] (hfind [])
theorem zoy:zdd.OK prog:=kA ze (by kernel_rfl)
def zoz:=spA d [zdd] 187 1 f187 ⟨[(0,.sl 86)],[]⟩ [(.ret,⟨[(0,.row 0)],[.row 250]⟩)] (hfind [(8,.loop ⟨[(0,.sl 86),(3,.row 0),(4,ii)],[.row 250]⟩ [(.exit 0,⟨[(3,.row 0)],[.row 250]⟩)])])
theorem zyF:zoz.OK prog:=kA (za zoy ze) (by kernel_rfl)
def ztn:=spA d [zdd,zoz] 186 1 f186 KC [(.ret,KT)] (hfind [(13,.cut [(.normal,⟨[(2,.pc 0 0),(3,.pc 1 0),(4,.pc 2 0),(20,ii),(21,.bool)],[c6,c7,c6]⟩)]),(16,.cut Jr),(20,.cut Jr),(28,.cut Jr),(36,.cut Jr),(42,.cut Jr),(48,.cut Jr),(56,.cut Jr)])
theorem zBF:ztn.OK prog:=kA (za zoy (za zyF ze)) (by kernel_rfl)
def zoA:=spA d [ztn,zdd,zoz] 167 1 f167 KC [(.ret,KT)] (hfind [(16,.cut Jv),(24,.cut Jv),(28,.cut Jv),(34,.cut Jv),(40,.cut Jv),(48,.cut Jv),(54,.cut KJ),(61,.cut KJ),(68,.cut KJ)])
theorem zBG:zoA.OK prog:=kA (za zBF (za zoy (za zyF ze))) (by kernel_rfl)
def Vx:Sig:=Gj
def Vy:List (XK×Sig):=[(.ret,⟨[(0,.row 0)],[.row 253]⟩)]
def zyG:Nat->Us Hint:=hfind [(8,.loop ⟨Kg,[c7,.row 253]⟩ [(.exit 0,⟨[(5,.row 0)],[.row 253]⟩)]),(16,.cut [(.normal,⟨Kg,[c7,.row 253]⟩)]),(23,.cut [(.normal,⟨[(1,ii),(2,.pc 0 0),(5,.row 1),(6,ii),(7,.pc 2 0),(8,ii),(40,.bool)],[c7,.row 253,c7]⟩)]),(45,.loop ⟨[(1,ii),(2,.pc 0 0),(5,.row 1),(6,ii),(7,.pc 2 0),(8,ii),(12,.row 3),(13,ii),(14,ii)],[c7,.row 253,c7,.row 253]⟩ [(.exit 2,⟨[(1,ii),(2,.pc 0 0),(5,.row 1),(6,ii),(7,.pc 2 0),(8,ii),(13,ii)],[c7,.row 253,c7]⟩)]),(71,.loop ⟨[(1,ii),(2,.pc 0 0),(5,.row 1),(6,ii),(15,.row 2),(16,ii)],[c7,.row 253,.row 253]⟩ [(.exit 4,⟨Kg,[c7,.row 253]⟩)])]
def zoB(h:Vx.ty CC->Us (zi CC Vy)):Spec CC:=⟨134,1,Vx,Vy,h⟩
def ziL(h:Vx.ty CC->Us (zi CC Vy))(x:Vx.ty CC):Us (zi CC Vy):=XY ⟨d⟩ [zoA,zdd,zoB h] lpO prog f134 1 Vx Vy zyG x
def zAv(h:Vx.ty CC->Us (zi CC Vy)):Spec CC:=⟨134,1,Vx,Vy,ziL h⟩
theorem zAw{h:Vx.ty CC->Us (zi CC Vy)}(hh:Spec.OK prog (zoB h)):Spec.OK prog (zAv h):=yE (za zBG (za zoy (za hh ze))) ZG ZF zyG (by kernel_rfl) (by kernel_rfl) (by kernel_rfl) λx=>rfl
def zf7:Nat->Vx.ty CC->Us (zi CC Vy)
  |0=>λ_=>m
  |k+1=>ziL (zf7 k)
theorem zuW:∀k,Spec.OK prog (zoB (zf7 k))
  |0=>⟨f134,by kernel_rfl,by kernel_rfl,by kernel_rfl,λx r h=>by cases h⟩
  |k+1=>zAw (zuW k)
def zyH(x:Vx.ty CC):Us (zi CC Vy):=zf7 100000 x
def zyI:Spec CC:=⟨134,1,Vx,Vy,zyH⟩
theorem zBH:Spec.OK prog zyI:=zuW 100000
def zoC:=spA d [zyI] 90 1 f90 KC [(.ret,⟨[(0,.agg [.str,.row 0,.row 1])],[.row 9,.row 253]⟩)] (hfind [(10,.loop ⟨[(1,.pc 0 0),(2,.pc 1 0),(3,.pc 2 0),(4,ii),(5,ii)],[c7,c39,c37,.row 9]⟩ [(.exit 0,⟨[(1,.pc 0 0),(2,.pc 1 0),(3,.pc 2 0),(4,ii)],[c7,c39,c37,.row 9]⟩)]),(19,.draw (od [1,3,5,7,9,11,13,15,16,18,21,22]) []),(24,.draw (od [1,3,5,7,9,11,13,15,17,18,20,23,24]) [])])
theorem zyJ:zoC.OK prog:=kA (za zBH ze) (by kernel_rfl)
def zto:=spA d [zfd,zti,zyE,zoC] 89 1 f89 ⟨[(0,.val 86),(1,.sl 177),(2,.sl 171)],[]⟩ [(.ret,⟨[(0,.pc 0 0)],Ke⟩)] (hfind [(8,.loop ⟨[(3,.pc 0 0),(7,.pc 1 0),(8,ii)],He⟩ [(.exit 0,⟨[(3,.pc 0 0),(7,.pc 1 0)],He⟩)]),(11,.cut [(.normal,⟨[(3,.pc 0 0),(7,.pc 1 0),(8,ii),(29,.bool)],He⟩)]),(27,.draw (od [1,3,5,7,9,11,12,14,17,19,20]) []),(33,.loop HM [(.exit 2,G0)]),(36,.cut [(.normal,⟨[(3,.pc 0 0),(7,.pc 1 0),(10,ii),(75,.bool)],He⟩)]),(47,.draw (od [1,3,5,7,9,11,13,15,17,19,21,23,25,26]) []),(51,.cut [(.normal,⟨[(3,.pc 0 0),(7,.pc 1 0),(10,ii),(11,.pc 2 0),(118,.bool)],[c7,.cell [.sl 177,.sl 171,.row 3,ii,ii],c7,.orow 137]⟩)]),(52,.cut [(.normal,HM)]),(59,.cut [(.normal,G0)])])
theorem zBI:zto.OK prog:=kA (za zth (za zBz (za zBE (za zyJ ze)))) (by kernel_rfl)
def ztp:=spA d [ztg,P50,zoc,zyy,zto,zos,zoC] 37 3 f37 Kx [(.ret,⟨[(0,.val 123),(1,.val 128),(2,.bool)],[]⟩)] (hfind [(8,.cut [(.normal,⟨[(1,.str),(4,.pc 0 0),(5,.pc 1 0),(7,.pc 2 0),(9,.pc 3 0),(38,.bool)],[c19,c46,c54,c5]⟩)]),(26,.loop J2 [(.exit 0,⟨[(4,.pc 0 0),(5,.pc 1 0),(7,.pc 2 0),(15,.row 3),(17,ii),(18,.pc 4 0),(19,.pc 5 0)],[c19,c46,c54,.orow 53,.cell [.sl 177,.sl 171,.row 6,ii,ii],.cell [.row 3,.row 7,.row 6,.row 8],.orow 137,.row 61,.row 134]⟩)]),(39,.cut [(.normal,J2)]),(41,.draw (od [1,3,5,6,8,10,13,14]) []),(42,.draw (od [1,3,5,7,9,11,13,14,16,18,21,22]) []),(46,.draw (od [1,3,5,7,9,11,13,15,17,19,21,23,25,27,29,31,33,35,37,39,41,43,45,47,49,51,53,55,57,58,60,63]) [(.normal,⟨[(4,.pc 0 0),(5,.pc 1 0),(6,.bool)],[c54,.cell [.row 2,.row 3,.row 4,.row 5],.orow 53,.row 61,.orow 137,.row 134]⟩)])])
theorem zBJ:ztp.OK prog:=kA (za zBx (za K50 (za zyd (za zBw (za zBI (za zyr (za zyJ ze))))))) (by kernel_rfl)
def zoD:=spA d [ztp] 11 3 f11 Kx [(.ret,⟨[(0,.row 0),(1,.row 1),(2,.bool)],[.row 63,.row 131]⟩)] (hfind [(20,.loop ⟨[(7,.pc 0 0),(8,.pc 1 0),(10,.row 2),(11,.row 3),(24,ii),(25,ii)],[c54,.cell [.val 128],.row 63,.row 131]⟩ [(.exit 0,⟨[(10,.row 0),(11,.row 1)],[.row 63,.row 131]⟩)]),(32,.draw (od [1,3,5,7,9,11,13,15,17,19,21,23,25,27,29,31,33,35,36,38,40]) []),(33,.draw (od [1,3,5,7,9,11,13,15,17,19,21,23,25,27,29,31,33,35,36,38,40,42]) [])])
theorem zyK:zoD.OK prog:=kA (za zBJ ze) (by kernel_rfl)
def zoE:=spA d [] 40 1 f40 HV H4 (hfind [])
theorem zBK:zoE.OK prog:=kA ze (by kernel_rfl)
def ztq:=spA d [zoE] 39 1 f39 ⟨[(0,.sl 53),(1,.clo 40 [.pc 0 0])],[c20]⟩ HH (hfind [(6,.loop ⟨[(0,.sl 53),(1,.clo 40 [.pc 0 0]),(7,ii),(8,ii)],[c20]⟩ KD)])
theorem zBL:ztq.OK prog:=kA (za zBK ze) (by kernel_rfl)
def zhk:=spA d [] 16 1 f16 ⟨[(0,ii)],[]⟩ Jj (hfind [(3,.cut Ka)])
theorem ztr:zhk.OK prog:=kA ze (by kernel_rfl)
def zts:=spA d [zhk] 38 1 f38 ⟨Hp,[c22]⟩ [(.ret,Gz)] (hfind [(3,.cut [(.normal,⟨[(3,.bool)],[c22]⟩)])])
theorem zBM:zts.OK prog:=kA (za ztr ze) (by kernel_rfl)
def ztt:=spA d [zts] 76 1 f76 HA [(.ret,⟨[(0,ii)],[c22]⟩)] (hfind [(6,.loop ⟨[(0,.sl 47),(1,.clo 38 [.pc 0 0]),(7,ii),(8,ii)],[c22]⟩ [(.ret,⟨[(4,ii)],[c22]⟩),(.exit 0,⟨[],[c22]⟩)])])
theorem zBN:ztt.OK prog:=kA (za zBM ze) (by kernel_rfl)
def ztu:=spA d [ztt] 41 1 f41 HA [(.ret,Gz)] (hfind [])
theorem zBO:ztu.OK prog:=kA (za zBN ze) (by kernel_rfl)
def zoF:=spA d [ztq,ztu] 13 2 f13 ⟨[(0,.val 63)],[]⟩ [(.ret,⟨[(0,ii),(1,ii)],[]⟩)] (hfind [(8,.loop KV [(.ret,Gy),(.exit 0,⟨[],[]⟩)]),(16,.cut [(.normal,KV),(.ret,Gy)]),(28,.draw (od [1,3,5,7,9,11,13,15,17,19,21,23,25,27,29,31,33,34,37]) [(.normal,⟨[(1,.pc 0 0),(4,.clo 38 [.pc 0 0]),(6,.pc 1 0),(11,.sl 71),(12,ii),(13,ii),(42,.bool)],[c22,c20]⟩)])])
theorem zyL:zoF.OK prog:=kA (za zBL (za zBO ze)) (by kernel_rfl)
def zkY:=spA d [] 17 1 f17 ⟨[(0,ii)],[]⟩ Jj (hfind [])
theorem zyM:zkY.OK prog:=kA ze (by kernel_rfl)
def ztv:=spA d [zoD,zoF,zhk,zkY] 12 1 f12 ⟨[],[]⟩ Jj (hfind [(15,.cut [(.normal,⟨[(0,.bool)],[]⟩)])])
theorem zBP:ztv.OK prog:=kA (za zyK (za zyL (za ztr (za zyM ze)))) (by kernel_rfl)
def zhl:=spA d [] 44 2 f44 KP [(.ret,⟨[(0,.val 71),(1,.bool)],[]⟩)] (hfind [(4,.cut [(.normal,⟨[(1,ii),(2,.pc 0 0),(4,.pc 1 0),(15,.bool)],[c22,c6]⟩)])])
theorem ztw:zhl.OK prog:=kA ze (by kernel_rfl)
def ztx:=spA d [zhl,zdc] 42 4 f42 KP [(.ret,⟨[(0,.val 47),(1,.val 47),(2,ii),(3,.bool)],[]⟩)] (hfind [(6,.cut [(.normal,⟨[(2,.pc 0 0),(4,.pc 1 0),(5,.pc 2 0),(8,.pc 3 0),(34,.bool)],[c22,c8,c8,c20]⟩)]),(9,.draw (od [1,3,4,6,9,11]) []),(15,.draw (od [1,3,5,7,9,11,13,21,23,25,27,29,31,33,14,17,19,34,36,38,41]) [])])
theorem zBQ:ztx.OK prog:=kA (za ztw (za zhh ze)) (by kernel_rfl)
def zoG:=spA d [] 43 1 f43 ⟨[(0,.val 63),(1,.val 47)],[]⟩ Jj (hfind [(3,.cut Jb)])
theorem zBR:zoG.OK prog:=kA ze (by kernel_rfl)
def zoH:=spA d [] 92 1 f92 ⟨[(0,.val 49),(1,.pc 0 0)],[c20]⟩ H4 (hfind [])
theorem zBS:zoH.OK prog:=kA ze (by kernel_rfl)
def zty:=spA d [zoH] 91 1 f91 ⟨[(0,.sl 49),(1,.clo 92 [.pc 0 0])],[c20]⟩ HH (hfind [(6,.loop ⟨[(0,.sl 49),(1,.clo 92 [.pc 0 0]),(7,ii),(8,ii)],[c20]⟩ KD)])
theorem zBT:zty.OK prog:=kA (za zBS ze) (by kernel_rfl)
def zoI:=spA d [] 93 1 f93 HV H4 (hfind [])
theorem zBU:zoI.OK prog:=kA ze (by kernel_rfl)
def ztz:=spA d [zoI] 39 1 f39 ⟨[(0,.sl 53),(1,.clo 93 [.pc 0 0])],[c20]⟩ HH (hfind [(6,.loop ⟨[(0,.sl 53),(1,.clo 93 [.pc 0 0]),(7,ii),(8,ii)],[c20]⟩ KD)])
theorem zBV:ztz.OK prog:=kA (za zBU ze) (by kernel_rfl)
def ztA:=spA d [zty,ztz] 45 1 f45 ⟨[(0,.val 63),(1,.val 71)],[]⟩ [(.ret,⟨[(0,.sl 47)],[]⟩)] (hfind [(8,.cut HN),(20,.cut HN),(27,.draw (od [1,3,5,7,9,11,13,15,17,19,21,23,25,27]) [])])
theorem zBW:ztA.OK prog:=kA (za zBT (za zBV ze)) (by kernel_rfl)
def ztB:=spA d [ztx,zoG,zhl,ztA,zdc] 14 1 f14 KP [(.ret,Gp)] (hfind [(7,.cut [(.ret,⟨[(4,.row 0)],[.row 3]⟩),(.normal,⟨[(1,ii),(2,.pc 0 0)],[c22]⟩)]),(10,.cut [(.normal,⟨[(7,ii),(37,.bool)],[]⟩)]),(28,.loop KK [(.exit 0,⟨[(11,.row 0)],[.row 3]⟩)]),(41,.cut [(.normal,KK)]),(42,.draw (od [1,3,5,7,9,11,13,15,17,18,20,22,24]) [])])
theorem zBX:ztB.OK prog:=kA (za zBQ (za zBR (za ztw (za zBW (za zhh ze))))) (by kernel_rfl)
def zoJ:=spA d [] 46 1 f46 ⟨[(0,.val 71)],[]⟩ [(.ret,⟨[(0,.row 0)],[.row 9]⟩)] (hfind [(11,.cut JP),(15,.cut JP),(19,.cut JP),(23,.cut JP),(26,.cut [(.normal,⟨[(1,.pc 0 0),(3,.row 1)],[c20,.row 9]⟩)]),(33,.loop Hk [(.exit 1,⟨[(3,.row 0)],[.row 9]⟩)]),(46,.cut [(.normal,Hk)])])
theorem zBY:zoJ.OK prog:=kA ze (by kernel_rfl)
def ztC:=spA d [zhl,zoJ,zdc] 15 1 f15 KP [(.ret,Gp)] (hfind [(9,.cut [(.normal,Gm)]),(13,.loop ⟨[(2,.pc 0 0),(5,.row 1),(18,.row 2),(19,ii),(20,ii)],[c22,.row 3,.row 9]⟩ [(.exit 0,Gm)])])
theorem zBZ:ztC.OK prog:=kA (za ztw (za zBY (za zhh ze))) (by kernel_rfl)
def zhm:=spA d [zoD,ztv,zoF,ztB,ztC,zhk,zkY] 5 1 f5 Kx Jj (hfind [(6,.cut [(.normal,⟨[(5,.row 0),(33,.bool)],[.row 63]⟩)]),(16,.loop HE [Kc,(.exit 0,⟨[],[]⟩)]),(24,.cut [Kc,(.normal,HE)]),(35,.loop JD [Kc,(.exit 2,⟨[(11,ii),(12,.bool),(35,.row 0),(36,ii),(37,ii)],[.row 63]⟩)]),(43,.cut [(.normal,JD),Kc]),(58,.loop ⟨[(9,.pc 0 0),(11,ii),(12,.bool),(13,ii),(15,.row 1),(35,.row 2),(36,ii),(37,ii),(48,.sl 71),(49,ii),(50,ii),(61,.row 3),(62,ii),(63,ii)],G6⟩ [(.exit 4,⟨[(9,.pc 0 0),(11,ii),(12,.bool),(13,ii),(15,.row 1),(35,.row 2),(36,ii),(37,ii),(48,.sl 71),(49,ii),(50,ii)],[c22,.obj 0 72,.row 63]⟩)]),(74,.loop Jt [Kc,(.exit 6,JD)]),(92,.cut [(.normal,Jt),Kc]),(96,.cut [Kc,(.normal,Jt)]),(98,.cut [(.normal,⟨[(9,.pc 0 0),(11,ii),(12,.bool),(15,.row 1),(19,ii),(20,.pc 2 0),(35,.row 3),(36,ii),(37,ii),(48,.sl 71),(49,ii),(50,ii),(74,.row 4),(75,ii),(76,ii)],[c22,.obj 0 72,c8,.row 63,.row 3]⟩)]),(100,.draw (od [1,3,9,11,13,15,17,19,21,8470,7,22,25,4,7,25]) [(.normal,⟨[(9,.pc 0 0),(11,ii),(12,.bool),(15,.row 1),(35,.row 2),(36,ii),(37,ii),(48,.sl 71),(49,ii),(50,ii),(74,.row 3),(75,ii),(76,ii),(115,.bool)],G6⟩)])])
theorem zB0:zhm.OK prog:=kA (za zyK (za zBP (za zyL (za zBX (za zBZ (za ztr (za zyM ze))))))) (by kernel_rfl)
end
end Go.Px
