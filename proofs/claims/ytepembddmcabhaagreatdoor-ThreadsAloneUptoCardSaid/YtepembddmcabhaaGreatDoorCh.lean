/- Part Ch. -/
import Derived.Test.YtepembddmcabhaaGreatDoorSf
set_option linter.unusedVariables false
namespace Go.Px
open Go.Proofs Go.Proofs.Tryz
set_option maxRecDepth 100000
noncomputable section
theorem ZF:Tryz.prog.follows .mixedOrders=true:=by kernel_rfl
def GLk:World->FS->Prop:=fun _ Z=>(∃ t p,Z 0 0=some (.iface t p))/\∃ t p,Z 1 0=some (.iface t p)
theorem glm {Z τ:FS}{w w':World}{h:zd}(l:Z.le τ) (_:Ext w h w') (g:GLk w Z):GLk w' τ:=by
  obtain ⟨⟨t,p,a⟩,t',p',b⟩:=g
  exact ⟨⟨t,p,l _ _ _ a⟩,t',p',l _ _ _ b⟩
structure qm where
  k_:Int
  T_:Ua
  N_:Int
  a_:Int
structure q7 where
  Z_:(Sl qm)
  D_:Int
structure q8 where
  k_:Int
  T_:Ua
  N_:Int
  a_:Int
  K_:(Sl q8)
structure qn where
  n_:Ua
  w_:Int
structure qt where
  X_:Int
  Y_:Int
  C_:Int
structure qa where
  n_:Ua
  S_:Int
  o_:Int
  G_:(Sl qn)
  H_:(Sl qt)
structure qg where
  n_:Ua
  M_:Int
  t_:Int
structure qd where
  n_:Ua
  P_:(Sl qg)
  R_:qg
structure q9 where
  k_:Int
  T_:Ua
  N_:Int
  a_:Int
structure q6 where
  k_:Int
  T_:Ua
  N_:Int
  a_:Int
  K_:(Sl q6)
structure qj where
  n_:Ua
  w_:Int
structure qq where
  X_:Int
  Y_:Int
  C_:Int
structure qb where
  n_:Ua
  S_:Int
  o_:Int
  G_:(Sl qj)
  H_:(Sl qq)
structure qf where
  n_:Ua
  M_:Int
  t_:Int
structure qh where
  n_:Ua
  P_:(Sl qf)
  R_:qf
structure qz where
  W_:(Sl q8)
  z_:(Sl qa)
  q_:(Sl qd)
  r_:(Sl q6)
  I_:(Sl qb)
  E_:(Sl qh)
structure qc where
  n_:Ua
  P_:Int
  V_:(Sl qg)
structure qw where
  n_:Ua
  N_:Int
structure qi where
  O_:Int
  a_:Int
  X_:Ua
  Y_:Ua
  A_:qw
  B_:qw
  J_:(Sl qw)
  g_:Int
  h_:Bool
structure q1d where
  n_:Ua
  P_:(Sl Ua)
  L_:(Sl qi)
structure qe where
  n_:Ua
  P_:Int
  V_:(Sl qf)
structure ql where
  n_:Ua
  N_:Int
structure qk where
  O_:Int
  a_:Int
  X_:Ua
  Y_:Ua
  A_:ql
  B_:ql
  J_:(Sl ql)
  g_:Int
  h_:Bool
structure q18 where
  n_:Ua
  P_:(Sl Ua)
  L_:(Sl qk)
structure q1l where
  W_:(Sl qc)
  U_:(Sl q1d)
  r_:(Sl qe)
  j_:(Sl q18)
structure qp where
  c_:q1d
  f_:qc
  s_:(Sl qd)
  F_:(Sl qc)
  Q_:(Sl qa)
structure qr where
  c_:q18
  f_:qe
  s_:(Sl qh)
  F_:(Sl qe)
  Q_:(Sl qb)
abbrev DT:List (Nat×Type):=[(151,qm),(148,q7),(112,q8),(229,qn),(283,qt),(65,qa),(9,Ua),(61,qg),(130,qd),(164,q9),(116,q6),(238,qj),(241,qq),(100,qb),(3,Int),(96,qf),(198,qh),(71,qz),(33,qc),(52,qw),(55,qi),(30,q1d),(84,qe),(91,ql),(94,qk),(81,q18),(76,q1l),(39,qp),(86,qr),(45,qr)]
abbrev DD:Nat->Type:=ztw DT
def ET:List ((T:Nat)×TyE DD T):=[⟨151,true,[.int .i64,.str,.int .i64,.int .i64],fun (x:qm)=>(x.k_,x.T_,x.N_,x.a_,()),fun (a0,a1,a2,a3,_)=>some (show qm from ⟨a0,a1,a2,a3⟩),fun x y h=>by cases h;rfl⟩,
  ⟨148,true,[.sl 151,.int .i64],fun (x:q7)=>(x.Z_,x.D_,()),fun (a0,a1,_)=>some (show q7 from ⟨a0,a1⟩),fun x y h=>by cases h;rfl⟩,
  ⟨112,true,[.int .i64,.str,.int .i64,.int .i64,.sl 112],fun (x:q8)=>(x.k_,x.T_,x.N_,x.a_,x.K_,()),fun (a0,a1,a2,a3,a4,_)=>some (show q8 from ⟨a0,a1,a2,a3,a4⟩),fun x y h=>by cases h;rfl⟩,
  ⟨229,true,[.str,.int .i64],fun (x:qn)=>(x.n_,x.w_,()),fun (a0,a1,_)=>some (show qn from ⟨a0,a1⟩),fun x y h=>by cases h;rfl⟩,
  ⟨283,true,[.int .i64,.int .i64,.int .i64],fun (x:qt)=>(x.X_,x.Y_,x.C_,()),fun (a0,a1,a2,_)=>some (show qt from ⟨a0,a1,a2⟩),fun x y h=>by cases h;rfl⟩,
  ⟨65,true,[.str,.int .i64,.int .i64,.sl 229,.sl 283],fun (x:qa)=>(x.n_,x.S_,x.o_,x.G_,x.H_,()),fun (a0,a1,a2,a3,a4,_)=>some (show qa from ⟨a0,a1,a2,a3,a4⟩),fun x y h=>by cases h;rfl⟩,
  ⟨9,false,[.str],fun (x:Ua)=>(x,()),fun (a0,_)=>some (show Ua from a0),fun x y h=>by cases h;rfl⟩,
  ⟨61,true,[.str,.int .i64,.int .i64],fun (x:qg)=>(x.n_,x.M_,x.t_,()),fun (a0,a1,a2,_)=>some (show qg from ⟨a0,a1,a2⟩),fun x y h=>by cases h;rfl⟩,
  ⟨130,true,[.str,.sl 61,.str,.int .i64,.int .i64],fun (x:qd)=>(x.n_,x.P_,x.R_.n_,x.R_.M_,x.R_.t_,()),fun (a0,a1,a2,a3,a4,_)=>some (show qd from ⟨a0,a1,⟨a2,a3,a4⟩⟩),fun x y h=>by cases h;rfl⟩,
  ⟨164,true,[.int .i64,.str,.int .i64,.int .i64],fun (x:q9)=>(x.k_,x.T_,x.N_,x.a_,()),fun (a0,a1,a2,a3,_)=>some (show q9 from ⟨a0,a1,a2,a3⟩),fun x y h=>by cases h;rfl⟩,
  ⟨116,true,[.int .i64,.str,.int .i64,.int .i64,.sl 116],fun (x:q6)=>(x.k_,x.T_,x.N_,x.a_,x.K_,()),fun (a0,a1,a2,a3,a4,_)=>some (show q6 from ⟨a0,a1,a2,a3,a4⟩),fun x y h=>by cases h;rfl⟩,
  ⟨238,true,[.str,.int .i64],fun (x:qj)=>(x.n_,x.w_,()),fun (a0,a1,_)=>some (show qj from ⟨a0,a1⟩),fun x y h=>by cases h;rfl⟩,
  ⟨241,true,[.int .i64,.int .i64,.int .i64],fun (x:qq)=>(x.X_,x.Y_,x.C_,()),fun (a0,a1,a2,_)=>some (show qq from ⟨a0,a1,a2⟩),fun x y h=>by cases h;rfl⟩,
  ⟨100,true,[.str,.int .i64,.int .i64,.sl 238,.sl 241],fun (x:qb)=>(x.n_,x.S_,x.o_,x.G_,x.H_,()),fun (a0,a1,a2,a3,a4,_)=>some (show qb from ⟨a0,a1,a2,a3,a4⟩),fun x y h=>by cases h;rfl⟩,
  ⟨3,false,[.int .i64],fun (x:Int)=>(x,()),fun (a0,_)=>some (show Int from a0),fun x y h=>by cases h;rfl⟩,
  ⟨96,true,[.str,.int .i64,.int .i64],fun (x:qf)=>(x.n_,x.M_,x.t_,()),fun (a0,a1,a2,_)=>some (show qf from ⟨a0,a1,a2⟩),fun x y h=>by cases h;rfl⟩,
  ⟨198,true,[.str,.sl 96,.str,.int .i64,.int .i64],fun (x:qh)=>(x.n_,x.P_,x.R_.n_,x.R_.M_,x.R_.t_,()),fun (a0,a1,a2,a3,a4,_)=>some (show qh from ⟨a0,a1,⟨a2,a3,a4⟩⟩),fun x y h=>by cases h;rfl⟩,
  ⟨71,true,[.sl 112,.sl 65,.sl 130,.sl 116,.sl 100,.sl 198],fun (x:qz)=>(x.W_,x.z_,x.q_,x.r_,x.I_,x.E_,()),fun (a0,a1,a2,a3,a4,a5,_)=>some (show qz from ⟨a0,a1,a2,a3,a4,a5⟩),fun x y h=>by cases h;rfl⟩,
  ⟨33,true,[.str,.int .i64,.sl 61],fun (x:qc)=>(x.n_,x.P_,x.V_,()),fun (a0,a1,a2,_)=>some (show qc from ⟨a0,a1,a2⟩),fun x y h=>by cases h;rfl⟩,
  ⟨52,true,[.str,.int .i64],fun (x:qw)=>(x.n_,x.N_,()),fun (a0,a1,_)=>some (show qw from ⟨a0,a1⟩),fun x y h=>by cases h;rfl⟩,
  ⟨55,true,[.int .i64,.int .i64,.str,.str,.str,.int .i64,.str,.int .i64,.sl 52,.int .i64,.bool],fun (x:qi)=>(x.O_,x.a_,x.X_,x.Y_,x.A_.n_,x.A_.N_,x.B_.n_,x.B_.N_,x.J_,x.g_,x.h_,()),fun (a0,a1,a2,a3,a4,a5,a6,a7,a8,a9,a10,_)=>some (show qi from ⟨a0,a1,a2,a3,⟨a4,a5⟩,⟨a6,a7⟩,a8,a9,a10⟩),fun x y h=>by cases h;rfl⟩,
  ⟨30,true,[.str,.sl 9,.sl 55],fun (x:q1d)=>(x.n_,x.P_,x.L_,()),fun (a0,a1,a2,_)=>some (show q1d from ⟨a0,a1,a2⟩),fun x y h=>by cases h;rfl⟩,
  ⟨84,true,[.str,.int .i64,.sl 96],fun (x:qe)=>(x.n_,x.P_,x.V_,()),fun (a0,a1,a2,_)=>some (show qe from ⟨a0,a1,a2⟩),fun x y h=>by cases h;rfl⟩,
  ⟨91,true,[.str,.int .i64],fun (x:ql)=>(x.n_,x.N_,()),fun (a0,a1,_)=>some (show ql from ⟨a0,a1⟩),fun x y h=>by cases h;rfl⟩,
  ⟨94,true,[.int .i64,.int .i64,.str,.str,.str,.int .i64,.str,.int .i64,.sl 91,.int .i64,.bool],fun (x:qk)=>(x.O_,x.a_,x.X_,x.Y_,x.A_.n_,x.A_.N_,x.B_.n_,x.B_.N_,x.J_,x.g_,x.h_,()),fun (a0,a1,a2,a3,a4,a5,a6,a7,a8,a9,a10,_)=>some (show qk from ⟨a0,a1,a2,a3,⟨a4,a5⟩,⟨a6,a7⟩,a8,a9,a10⟩),fun x y h=>by cases h;rfl⟩,
  ⟨81,true,[.str,.sl 9,.sl 94],fun (x:q18)=>(x.n_,x.P_,x.L_,()),fun (a0,a1,a2,_)=>some (show q18 from ⟨a0,a1,a2⟩),fun x y h=>by cases h;rfl⟩,
  ⟨76,true,[.sl 33,.sl 30,.sl 84,.sl 81],fun (x:q1l)=>(x.W_,x.U_,x.r_,x.j_,()),fun (a0,a1,a2,a3,_)=>some (show q1l from ⟨a0,a1,a2,a3⟩),fun x y h=>by cases h;rfl⟩,
  ⟨39,true,[.str,.sl 9,.sl 55,.str,.int .i64,.sl 61,.sl 130,.sl 33,.sl 65],fun (x:qp)=>(x.c_.n_,x.c_.P_,x.c_.L_,x.f_.n_,x.f_.P_,x.f_.V_,x.s_,x.F_,x.Q_,()),fun (a0,a1,a2,a3,a4,a5,a6,a7,a8,_)=>some (show qp from ⟨⟨a0,a1,a2⟩,⟨a3,a4,a5⟩,a6,a7,a8⟩),fun x y h=>by cases h;rfl⟩,
  ⟨86,true,[.str,.sl 9,.sl 94,.str,.int .i64,.sl 96,.sl 198,.sl 84,.sl 100],fun (x:qr)=>(x.c_.n_,x.c_.P_,x.c_.L_,x.f_.n_,x.f_.P_,x.f_.V_,x.s_,x.F_,x.Q_,()),fun (a0,a1,a2,a3,a4,a5,a6,a7,a8,_)=>some (show qr from ⟨⟨a0,a1,a2⟩,⟨a3,a4,a5⟩,a6,a7,a8⟩),fun x y h=>by cases h;rfl⟩,
  ⟨45,false,[.pz 86],fun (x:qr)=>(x,()),fun (a0,_)=>some (show qr from a0),fun x y h=>by cases h;rfl⟩]
def CC:Cod:=zyP DD ET GLk glm (nst:=fun t=>bif Nat.beq t 84 then 2 else bif Nat.beq t 33 then 2 else 0) (own:=fun t=>Nat.beq t 84 || Nat.beq t 33 || false) (bz:=fun t=>Nat.beq t 86 || false)
def od:List Nat->List (Nat×Bool):=List.map fun n=>(n / 2,Nat.beq (n % 2) 1)
def spA (b:Bool) (Γ:List (Spec CC)) (f nr:Nat) (fn:Func) (I:Sig) (O:List (XK×Sig)) (H:Nat->Uc Hint):Spec CC:=⟨f,nr,I,O,fun x=>XR ⟨b⟩ Γ lpO prog fn nr I O H x⟩
theorem kA {b : Bool} {Γ : List (Spec CC)} {f nr : Nat} {fn : Func} {I : Sig} {O : List (XK × Sig)} {H : Nat -> Uc Hint} (h : ∀ s ∈ Γ, s.OK prog) (e : (Tryz.prog.funcs[f]?, (fn.name == "runtime.NumGoroutine"), fn.body.isNone) = (some fn, false, false)) : (spA b Γ f nr fn I O H).OK prog :=
  yC h ZF ZE H (Prod.mk.inj e).1 (Prod.mk.inj (Prod.mk.inj e).2).1 (Prod.mk.inj (Prod.mk.inj e).2).2 fun x=>rfl
abbrev ii:Sh :=.int .i64
abbrev c0:ESh :=.cell [.sl 130,.sl 65,.row 1,ii,.pr 1 33 0]
abbrev c1:ESh :=.cell [ii,.str,ii,ii,.nils]
abbrev c2:ESh :=.cell [.val 148]
abbrev c3:ESh :=.cell [.row 1,ii,ii,ii,ii]
abbrev c4:ESh :=.cell [.sl 198,.sl 100,.row 1,ii,ii]
abbrev c5:ESh :=.cell [ii,ii,.str,.str,.str,ii,.str,ii,.nils,ii,.bool]
abbrev c6:ESh :=.cell [.val 112]
abbrev c7:ESh :=.cell [.val 116]
abbrev c8:ESh :=.cell [ii,.str,ii,ii,.row 4]
abbrev c9:ESh :=.cell [.val 61]
abbrev c10:ESh :=.cell [.str,ii,ii,.nils,.nils]
abbrev c11:ESh :=.cell [ii]
abbrev c12:ESh :=.cell [ii,ii,.str,.str,.str,ii,.str,ii,.row 2,ii,.bool]
abbrev c13:ESh :=.cell [.val 96]
abbrev c14:ESh :=.cell [ii,ii,.str,.str,.str,ii,.str,ii,.row 3,ii,.bool]
abbrev c15:ESh :=.cell [.sl 130,.sl 65,.row 1,ii,.pnil]
abbrev c16:ESh :=.cell [.str,ii,ii,.row 1,.row 2]
abbrev c17:ESh :=.cell [.str,.nils,.str,ii,ii]
abbrev c18:ESh :=.cell [ii,.str,ii,ii,.row 3]
abbrev c19:ESh :=.cell [.val 164]
abbrev c20:ESh :=.cell [.str]
abbrev c21:ESh :=.cell [.nils,.nils,.nils,.nils,.nils,.nils]
abbrev c22:ESh :=.cell [.row 1]
abbrev c23:ESh :=.cell [.str,ii,.nils]
abbrev c24:ESh :=.cell [.str,ii,ii,.row 2,.nils]
abbrev c25:ESh :=.cell [.sl 198,.sl 100,.row 2,ii,ii]
abbrev c26:ESh :=.cell [.nils]
abbrev c27:ESh :=.cell [.str,ii,ii,.row 6,.nils]
abbrev c28:ESh :=.cell [.str,.sl 9,.row 2,.str,ii,.sl 61,.sl 130,.sl 33,.sl 65]
abbrev c29:ESh :=.cell [.val 39]
abbrev c30:ESh :=.cell [.str,ii,ii,.row 2,.row 3]
abbrev c31:ESh :=.cell [.str,ii,ii,.row 6,.row 7]
abbrev c32:ESh :=.cell [.str,ii,ii,.row 5,.nils]
abbrev c33:ESh :=.cell [.str,.row 3,.str,ii,ii]
abbrev c34:ESh :=.cell [.sl 130,.sl 65,.row 5,ii,.pnil]
abbrev c35:ESh :=.cell [.str,.row 3,.nils]
abbrev c36:ESh :=.cell [ii,.str,ii,ii,.row 2]
abbrev c37:ESh :=.cell [.str,.nils,.nils]
abbrev c38:ESh :=.cell [.row 4]
abbrev c39:ESh :=.cell [.row 3,ii,ii,ii,ii]
abbrev c40:ESh :=.cell [.val 151]
abbrev c41:ESh :=.cell [.str,ii,ii,.row 7,.nils]
abbrev c42:ESh :=.cell [.str,.row 4,.str,ii,ii]
abbrev c43:ESh :=.cell [.str,.row 5,.str,ii,ii]
abbrev c44:ESh :=.cell [.nils,.nils,.nils,.nils]
abbrev c45:ESh :=.cell [.row 2]
abbrev c46:ESh :=.cell [.str,ii,.row 5]
abbrev c47:ESh :=.cell [.str,ii,.row 1]
abbrev c48:ESh :=.cell [.val 55]
abbrev c49:ESh :=.cell [.str,ii,ii,.row 4,.nils]
abbrev c50:ESh :=.cell [.row 3]
abbrev c51:ESh :=.cell [ii,.str,ii,ii,.row 5]
abbrev c52:ESh :=.cell [.str,ii,.row 7]
abbrev c53:ESh :=.cell [.val 71]
abbrev c54:ESh :=.cell [.str,ii,.row 6]
abbrev c55:ESh :=.cell [ii,ii]
abbrev Gq:=XK×Sig
abbrev Gs:=List (XK×Sig)
abbrev Gt:=List ESh
abbrev Gu:=List (Nat×Sh)
def Ja:Gq:=(.pan (.ifc 144 (.agg [ii,ii])),⟨[],[c2]⟩)
def Jb:Gs:=[(.normal,⟨[(4,.bool)],[]⟩)]
def J0:Gt:=[c0,.forow 33]
def Jc:Gq:=(.pan (.ifc 170 (.agg [ii,ii])),⟨[],J0⟩)
def HC:Sig:=⟨[],[c0,.orow 33]⟩
def JG:Gq:=(.pan (.ifc 170 (.agg [ii,ii])),HC)
def JR:Sig:=⟨[(0,.pc 0 0),(4,.pc 2 0),(11,.sl 112),(12,ii),(13,ii)],[c0,.orow 33,c9]⟩
def Jd:Gs:=[JG,(.normal,JR)]
def Je:Gq:=(.normal,⟨[(0,.pc 0 0),(2,.pc 1 0),(3,.pc 2 0)],[c2,c1,c1]⟩)
def Jf:Gs:=[(.ret,⟨[(0,.agg [ii,.str,ii,ii,.row 2])],[c3,.row 164,.row 116]⟩)]
def Jg:Gt:=[c3,.row 164,c1,c8,.row 116]
def Jh:Gq:=(.ret,⟨[(0,.agg [ii,.str,ii,ii,.row 1])],[c2,.row 112]⟩)
def Ji:Gq:=(.pan (.ifc 170 (.agg [ii,ii])),⟨[(6,.pc 1 0),(7,.pc 2 0),(8,.pc 3 0)],[c6,c26,c11,c11]⟩)
def KP:Gt:=[c16,.row 229,.row 283]
def Jj:Gq:=(.pan (.ifc 190 (.agg [ii,ii])),⟨[],KP⟩)
def Jk:Gs:=[(.ret,⟨[(0,.bool)],[]⟩)]
def Jl:Sig:=⟨[(0,.pc 0 0)],[c3,.row 164]⟩
def Jm:Gq:=(.normal,⟨[(0,.pc 0 0),(4,.pc 2 0)],[c22,.row 55,c14,.row 52]⟩)
def Hf:Gu:=[(2,.pc 0 0),(3,.pc 1 0),(4,.pc 2 0)]
def KU:Gt:=[c18,c11,c11,.row 112]
def Jn:Gs:=[(.pan (.ifc 144 (.agg [ii,ii])),⟨Hf,KU⟩),(.normal,⟨[(2,.pc 0 0),(3,.pc 1 0),(4,.pc 2 0),(6,.pc 3 0)],[c8,c11,c11,c2,.row 112]⟩)]
def Jo:Gq:=(.normal,⟨[(0,.pc 0 0),(2,.pc 1 0)],[c2,c1]⟩)
def Jp:Gq:=(.ret,⟨[(4,.pc 1 0),(5,ii),(6,ii)],[.row 100,c24,.row 238]⟩)
def Jq:Gs:=[(.normal,⟨[(29,.bool)],[]⟩)]
def Jr:Sig:=⟨[(2,.pc 1 0)],[c2,c6]⟩
def Js:Gs:=[(.normal,⟨[(2,.pc 0 0),(4,.pc 1 0)],[c5,c12,.row 91]⟩)]
def HH:Gt:=[c15,.forow 33]
def Jt:Gq:=(.pan (.ifc 170 (.agg [ii,ii])),⟨[],HH⟩)
def Ju:Gs:=[(.normal,⟨[(2,.pc 0 0),(3,.pc 1 0)],[c5,c12,.row 91]⟩)]
def Jv:Sig:=⟨[(0,.pc 0 0)],[c2]⟩
def Jw:Gs:=[(.ret,⟨[(0,ii)],[]⟩)]
def Hg:Sig:=⟨[],[c4,.orow 84]⟩
def Jx:Gs:=[(.ret,⟨[(6,ii)],[c4,.orow 84]⟩),(.normal,Hg)]
def Jy:Gs:=[(.normal,⟨[(0,.pc 0 0),(6,.pc 2 0)],[c22,.row 55,c14,.row 52]⟩)]
def Jz:Gq:=(.normal,⟨[(0,.pc 0 0),(2,.pc 2 0),(5,.pc 3 0)],Jg⟩)
def J1:Sig:=⟨[(4,.pc 0 0),(5,.pc 1 0),(7,.pc 2 0),(12,.pc 3 0),(15,.row 4),(17,ii),(18,.pc 5 0),(19,.pc 6 0),(70,.sl 112),(71,ii),(72,ii)],[c21,c44,c53,c7,.orow 33,.cell [.sl 198,.sl 100,.row 7,ii,ii],.cell [.row 4,.row 8,.row 7,.row 9],.orow 84,.row 30,.row 81]⟩
def J2:Gq:=(.ret,⟨[(4,.pc 0 0),(5,ii),(6,ii)],[c17]⟩)
def J3:Sig:=⟨[(3,.pc 0 0),(6,.pc 1 0),(7,.pc 2 0),(8,.pc 3 0),(9,.pc 4 0),(20,.sl 112),(21,ii),(22,ii)],[c6,c26,c11,c11,c34,.orow 33]⟩
def J4:Sig:=⟨[(0,.str),(1,ii),(4,.pc 0 0),(6,.pc 1 0),(7,ii),(13,ii),(14,.bool)],[c19,c19]⟩
def Ge:Gt:=[c3,.row 164,c1,c1]
def J5:Sig:=⟨[(0,.pc 0 0),(2,.pc 2 0),(3,.pc 3 0)],Ge⟩
def J6:Gq:=(.pan (.ifc 190 (.agg [ii,ii])),⟨[],[]⟩)
def Gm:Gt:=[c16,.row 229,.row 283,c6,c55]
def J7:Sig:=⟨[(0,.pc 0 0),(2,.sl 112),(4,.pc 3 0),(6,.pc 4 0),(11,.sl 112),(12,ii),(13,ii)],Gm⟩
def KT:Gt:=[c4,.forow 84,c13,c13]
def J8:Gs:=[(.ret,⟨[(6,.pc 2 0),(7,ii)],[c4,.forow 84,c13]⟩),(.normal,⟨[(6,.pc 2 0),(8,.pc 3 0)],KT⟩)]
def J9:Gs:=[(.normal,⟨[(1,.sl 100),(2,.pc 0 0),(4,.pc 1 0),(6,.pc 2 0)],[c7,c13,c13]⟩)]
def JA:Gq:=(.normal,⟨[(4,.pc 1 0),(7,.row 2),(8,.row 3),(10,.pc 4 0),(16,ii)],[.row 100,c10,.row 116,.row 116,c32,.row 238]⟩)
def JB:Gt:=[.row 100,c10,.row 116,.row 116,c7,c27,.row 238]
def JC:Gq:=(.normal,⟨[(0,.str),(5,.row 0),(6,ii),(7,.pc 1 0),(8,ii)],[.row 151,c40]⟩)
def JD:Sig:=⟨[(2,.pc 0 0),(8,.pc 1 0),(9,.pc 2 0)],[c1,c39,c8,.row 164,.row 116]⟩
def JE:Sig:=⟨[(2,.pc 0 0),(9,ii),(10,.row 1),(12,ii),(13,.pc 2 0),(19,.row 3),(22,.pc 4 0),(72,.sl 112),(73,ii),(74,ii)],[c21,.row 130,c7,.row 198,.cell [.row 5,.sl 65,.row 1,.row 6,.sl 100,.row 3],.row 112,.row 116]⟩
def Ga:Gt:=[c0,.forow 33,c9,c9]
def JF:Gq:=(.normal,⟨[(0,.pc 0 0),(4,.pc 2 0),(5,.pc 3 0)],Ga⟩)
def KW:Sig:=⟨[(2,.pc 1 0),(3,.pc 2 0),(4,.pc 3 0)],[c6,c38,c11,c11,.row 65]⟩
def JH:Gs:=[(.pan (.ifc 190 (.agg [ii,ii])),KW),(.normal,⟨[(2,.pc 1 0),(3,.pc 2 0),(4,.pc 3 0),(9,.sl 112),(10,ii),(11,ii)],[c6,c38,c11,c11,.row 65]⟩)]
def JI:Sig:=⟨[(2,.pc 0 0),(3,.pc 1 0),(4,.pc 2 0),(17,.sl 112),(18,ii),(19,ii)],[c37,c35,c38,.row 9,.row 55]⟩
def JJ:Gq:=(.ret,⟨[(2,.nils),(3,ii),(4,ii)],[]⟩)
def JK:Gu:=[(0,.pc 0 0),(1,.val 112)]
def JL:Gt:=[.row 100,c10,.row 116,.row 116,c31,.row 3,.row 238,.row 241]
def JM:Sig:=⟨[(0,.sl 65),(3,.pc 0 0),(4,.pc 1 0),(5,.sl 112),(6,.row 2),(7,.pc 3 0),(9,.pc 4 0),(10,ii),(33,.sl 112),(34,ii),(35,ii)],[c6,c10,.row 112,c32,c6,.row 229]⟩
def JN:Sig:=⟨[(6,.pc 1 0),(7,.pc 2 0),(8,.pc 3 0),(9,.pc 4 0),(46,.sl 112),(47,ii),(48,ii)],[c6,c26,c11,c11,.cell [.sl 130,.sl 65,.row 5,ii,.pr 5 33 0],.orow 33]⟩
def JO:Sig:=⟨[(4,.pc 1 0),(7,.row 2),(8,.row 3),(10,.pc 4 0),(16,ii),(17,ii)],[.row 100,c10,.row 116,.row 116,.cell [.str,ii,ii,.row 5,.row 6],.row 238,.row 241]⟩
def JP:Sig:=⟨[],[c45,.gone,.row 55]⟩
def JQ:Gs:=[(.ret,⟨[(0,.val 116)],[c3,.row 164]⟩)]
def JS:Sig:=⟨[(2,.row 0),(3,.row 1),(7,.sl 112),(8,ii),(9,ii)],[.row 112,.row 112]⟩
def JT:Sig:=⟨[(0,.str)],[]⟩
def JU:Gu:=[(0,.val 112)]
def JV:Gt:=[c2,c1,c18,.row 112]
def JW:Gs:=[(.ret,⟨[(4,ii)],[c20]⟩),(.exit 0,⟨[],[c20]⟩)]
def JX:Sig:=⟨[(0,.pc 0 0),(1,ii)],[c2]⟩
def JY:Gu:=[(0,.str),(5,.row 0),(6,ii)]
def JZ:Gs:=[(.normal,⟨[(2,.bool)],[]⟩)]
def Ka:Sig:=⟨[(0,.sl 65),(3,.pc 0 0),(4,.pc 1 0),(5,.sl 112),(6,.row 2),(7,.pc 3 0),(33,.sl 112),(34,ii),(35,ii)],[c6,c10,.row 112,c49,.row 229]⟩
def Kb:Gt:=[.row 100,c10,.row 116,.row 116,c7,c41,c7,.row 238]
def Kc:Gq:=(.ret,⟨[(0,.row 1)],[c2,.row 112]⟩)
def Kd:Gu:=[(1,ii),(2,.pc 0 0),(5,.row 1),(6,ii)]
def Ke:Gq:=(.ret,⟨[(4,.pc 1 0),(5,ii),(6,ii)],[.row 100,c30,.row 238,.row 241]⟩)
def Kf:Sig:=⟨[(0,.pc 0 0),(1,.pr 1 84 0),(2,.sl 116),(6,ii)],[c4,.orow 84]⟩
def Kg:Gu:=[(0,.row 0),(1,ii),(2,ii)]
def Kh:Sig:=⟨[(1,.sl 65),(2,.pc 0 0),(4,.pc 1 0),(7,.pc 2 0),(8,ii),(11,.pc 3 0),(29,.sl 112),(30,ii),(31,ii)],[c6,c17,c42,c9,.row 61]⟩
def Ki:Sig:=⟨[(0,.pc 0 0),(3,.pc 2 0),(4,.pc 3 0),(5,ii),(6,.pc 4 0),(27,.sl 112),(28,ii),(29,ii)],[c15,.forow 33,c6,c23,c46,.row 61]⟩
def Kj:Gu:=[(0,.pc 0 0),(1,.str)]
def Kk:Gs:=[(.normal,⟨[(0,.pc 0 0),(3,.pc 2 0),(4,.pc 3 0),(5,ii),(6,.pc 4 0),(7,ii),(11,.pc 5 0)],[c4,.forow 84,c7,c23,c54,c13,.row 96]⟩)]
def Kl:Gq:=(.ret,⟨[(4,.pc 2 0)],[c0,.forow 33,c9]⟩)
def Km:Sig:=⟨[(10,ii),(11,ii),(12,.pc 0 0),(31,.row 1),(32,ii),(33,ii),(47,.sl 55),(48,ii),(49,ii)],[c28,.row 39,.row 55]⟩
def Kn:Gq:=(.exit 0,⟨[(5,.row 1)],[c2,.row 112]⟩)
def Ko:Gs:=[(.ret,⟨[(0,.bool)],[c20]⟩)]
def Kq:Gq:=(.ret,⟨[(4,.nils),(5,ii),(6,ii)],[]⟩)
def Kr:Sig:=⟨[(0,.val 116)],[]⟩
def Ks:Sig:=⟨[(0,.str),(1,.str)],[]⟩
def Kt:Sig:=⟨[(0,.int .u8)],[]⟩
def Ku:Gq:=(.normal,⟨[(0,.pc 0 0),(4,.pc 1 0),(5,.pc 2 0)],JV⟩)
def Kv:Sig:=⟨[(4,.pc 1 0),(7,.row 2),(8,.row 3),(10,.pc 4 0),(16,ii),(17,ii),(18,.row 5),(19,ii)],JL⟩
def Kx:Sig:=⟨[(1,.sl 100),(2,.pc 0 0),(4,.pc 1 0),(7,.pc 2 0),(8,ii),(9,ii)],[c7,c17,c33,.row 96]⟩
def Ky:Sig:=⟨[(0,.pc 0 0),(4,.pc 2 0),(5,.pc 3 0)],Jg⟩
def Kz:Gs:=[(.ret,⟨[(0,ii)],[.forow 84]⟩)]
def KC:Gs:=[(.normal,⟨[(2,.pc 0 0),(3,.pc 1 0)],[c5,c5]⟩)]
def KD:Sig:=⟨[(0,.row 0),(4,.pc 1 0),(7,.row 2),(8,.row 3),(9,.pc 4 0),(10,.pc 5 0),(12,ii)],JB⟩
def KE:Gs:=[(.ret,⟨[(4,ii)],[]⟩),(.exit 0,⟨[],[]⟩)]
def KF:Gq:=(.ret,⟨[(6,ii)],[.forow 84]⟩)
def KG:Gt:=[c4,.forow 84]
def KH:Gu:=[(0,.pc 0 0),(1,.pc 1 0),(2,.pc 2 0),(3,.nili)]
def KI:Sig:=⟨[(0,.pc 0 0),(1,ii)],[c3,.row 164]⟩
def KJ:Sig:=⟨[(0,.pc 0 0),(2,.pc 1 0),(3,.pc 2 0),(69,.pc 3 0)],[c2,c1,c1,.cell []]⟩
def KK:Sig:=⟨[(0,.agg [ii,ii,.str,.str,.str,ii,.str,ii,.row 0,ii,.bool])],[.row 91]⟩
def KL:Sig:=⟨[(1,.pc 0 0),(4,.clo 17 [.pc 0 0]),(11,.sl 55),(12,ii),(13,ii)],[c29]⟩
def KM:Gq:=(.ret,⟨[(2,.pc 1 0)],[c2,c36,.row 112]⟩)
def KO:Gq:=(.normal,⟨[(2,.pc 1 0),(3,.pc 2 0)],JV⟩)
def KQ:Gs:=[(.ret,⟨[(0,ii)],[c20]⟩)]
def KR:Sig:=⟨[(1,.sl 65),(7,.row 0),(14,.sl 112),(15,ii),(16,ii)],[.row 130]⟩
def KV:Gs:=[(.normal,⟨[(0,.str),(1,ii),(2,ii),(3,ii),(4,ii),(11,.row 0)],[.row 241]⟩)]
def KX:Sig:=⟨[(0,.val 116),(1,.sl 100)],[]⟩
def KY:Gs:=[(.normal,⟨[(0,.pc 0 0),(2,.pc 1 0),(3,.pc 2 0),(18,.bool)],[c2,c1,c1]⟩)]
def KZ:Sig:=⟨[(0,.val 112),(1,.sl 65)],[]⟩
def Ha:Sig:=⟨[(0,.str),(1,ii),(4,.pc 0 0),(6,.pc 1 0),(7,ii)],[c19,c19]⟩
def Hb:Sig:=⟨[(1,.sl 100),(2,.pc 0 0),(7,.row 1),(8,ii)],[c7,.row 198]⟩
def Hc:Sig:=⟨[(0,.str),(1,ii),(2,ii)],[]⟩
def He:Gt:=[c7,c25,.orow 84]
def Hh:Sig:=⟨[],[c3,.row 164]⟩
def Hi:Gu:=[(0,.val 61),(1,.pc 0 0)]
def Hj:Gs:=[(.ret,⟨[(4,ii)],[.row 61,c9]⟩),(.exit 0,⟨[],[.row 61,c9]⟩)]
def Hk:Sig:=⟨[(0,.pc 0 0),(4,.pc 2 0),(5,.pc 3 0),(7,.bool)],Jg⟩
def Hl:Sig:=⟨[(0,.pc 0 0),(4,.pc 2 0),(5,.pc 3 0),(6,.bool)],Jg⟩
def Hm:Sig:=⟨[(0,.row 0),(1,.clo 122 [.pc 1 0])],[.row 61,c9]⟩
def Hn:Sig:=⟨[(0,.row 0),(1,.clo 120 [.pc 1 0])],[.row 61,c9]⟩
def Ho:Sig:=⟨[(0,.pc 0 0),(3,.pc 1 0),(4,.pc 2 0)],[c2,c6,c1]⟩
def Hp:Gt:=[c6,c26,c11,c11,.cell [.sl 130,.sl 65,.row 5,ii,.und],.orow 33]
def Hq:Gq:=(.ret,⟨[],J0⟩)
def Hs:Sig:=⟨[(1,.pc 0 0),(5,.row 1),(6,ii)],[c7,.row 100]⟩
def Ht:Gu:=[(0,.agg [ii,.str,ii,ii,.nils])]
def Hu:Gs:=[(.ret,⟨[(10,.row 0)],[.row 283]⟩),(.normal,⟨[],[]⟩)]
def Hv:Sig:=⟨[(0,.pc 0 0),(1,.pr 1 84 0),(2,.val 116)],KG⟩
def Hw:Sig:=⟨[(0,.sl 112),(1,.clo 158 [.pc 0 0])],[c20]⟩
def Hx:Sig:=⟨[(0,.str),(1,ii),(2,ii),(3,ii),(4,ii)],[]⟩
def Hy:Gq:=(.normal,⟨[],J0⟩)
def Hz:Gq:=(.exit 0,⟨[],[.forow 84]⟩)
def H0:Sig:=⟨[(2,.pc 2 0)],[c3,.row 164,c18,.row 116]⟩
def H3:Sig:=⟨[(0,.sl 61),(1,.clo 17 [.pc 0 0])],[c29]⟩
def H4:Sig:=⟨[(0,.pc 0 0),(2,.pc 2 0),(3,.pc 3 0)],Jg⟩
def H5:Sig:=⟨[(0,.pc 0 0),(2,.pc 1 0),(3,.pc 2 0)],JV⟩
def H6:Gu:=[(0,.pc 0 0),(3,.pc 2 0),(4,.pc 3 0),(5,ii),(6,.pc 4 0)]
def H7:Gs:=[(.exit 0,⟨[(1,ii)],[]⟩)]
def H8:Gq:=(.ret,⟨[(0,.val 61)],J0⟩)
def H9:Sig:=⟨[(0,.pr 0 84 0),(1,.str)],[.forow 84]⟩
def HA:Sig:=⟨[(3,.pc 1 0),(4,.pc 2 0)],[c2,c6,c1]⟩
def HB:Sig:=⟨[(3,.pc 0 0),(7,.pc 1 0),(10,ii)],He⟩
def HD:Sig:=⟨[(0,.str),(1,ii),(2,.clo 78 [])],[]⟩
def HE:Sig:=⟨[(0,.str),(1,ii),(2,.clo 74 [])],[]⟩
def HF:Sig:=⟨[(0,.str),(1,ii),(2,.clo 73 [])],[]⟩
def HG:Gt:=[c7,c17,c43,c7,c13,.row 96]
def HI:Gu:=[(0,.pc 0 0),(1,ii),(2,ii)]
def HJ:Gu:=[(0,.pc 0 0),(4,.pc 2 0),(5,.pc 3 0),(10,.pc 4 0)]
def HK:Gu:=[(0,.val 112),(1,.pc 0 0)]
def HL:Sig:=⟨[(4,.pc 1 0)],[c2,c36,.row 112]⟩
def HM:Gt:=[.forow 33,c6]
def HN:Gu:=[(4,.pc 0 0),(6,.pc 1 0)]
def HO:Sig:=⟨[(7,.pc 0 0)],[c4,.orow 84]⟩
def HP:Gt:=[c50,c11,c11,.forow 33]
def HQ:Gt:=[c0,.forow 33,c6,c9,c9]
def HR:Sig:=⟨[(4,.pc 0 0),(5,ii)],[c19]⟩
def HS:Sig:=⟨[(0,.bool)],[c3,.row 164]⟩
def HT:Sig:=⟨[(0,.val 151),(1,ii)],[]⟩
def HU:Sig:=⟨[(0,.val 116),(1,ii)],[]⟩
def HV:Sig:=⟨[(0,.bool)],[.row 61,c9]⟩
def HW:Gt:=[c4,.forow 84,c7,c23,c52,c7,c13,.row 96]
def HX:Sig:=⟨[(0,.val 96),(1,ii)],KG⟩
def HY:Gt:=[c50,c11,c11,.row 65]
def HZ:Sig:=⟨[(0,ii)],[.row 61,c9]⟩
def Gb:Sig:=⟨[(0,.str),(1,ii)],[]⟩
def Gc:Gs:=[(.normal,J5)]
def Gd:Sig:=⟨[(0,.val 151)],[c2]⟩
def Gf:Gt:=[c22,.row 55,c6,c5]
def Gg:Sig:=⟨[(2,ii),(3,ii)],[]⟩
def Gh:Sig:=⟨[(0,.bool)],[c29]⟩
def Gi:Gt:=[c4,.forow 84,c7,c23,c46,.row 96]
def Gj:Sig:=⟨[(0,.val 52)],[]⟩
def Gk:Sig:=⟨[(0,.bool)],[c9]⟩
def Gl:Sig:=⟨[(0,.bool)],[c2]⟩
def Gn:Gt:=[c4,.orow 84,c7]
def Gp:Gs:=[(.exit 0,⟨[(3,ii)],[]⟩)]
def P0:=spA false [] 73 1 f73 Kt Jk (hfind [])
theorem K0:P0.OK prog:=kA zf (by kernel_rfl)
def P1:=spA false [P0] 72 1 f72 HF Jw (hfind [(4,.loop HF H7),(7,.cut [(.normal,⟨[(0,.str),(1,ii),(2,.clo 73 []),(17,.bool)],[]⟩)])])
theorem K1:P1.OK prog:=kA (za K0 zf) (by kernel_rfl)
def P2:=spA false [] 74 1 f74 Kt Jk (hfind [(3,.cut JZ)])
theorem K2:P2.OK prog:=kA zf (by kernel_rfl)
def P3:=spA false [P2] 72 1 f72 HE Jw (hfind [(4,.loop HE H7),(7,.cut [(.normal,⟨[(0,.str),(1,ii),(2,.clo 74 []),(17,.bool)],[]⟩)])])
theorem K3:P3.OK prog:=kA (za K2 zf) (by kernel_rfl)
def I4:Sig:=Hc
def O4:List (XK×Sig):=[(.ret,⟨[(0,ii),(1,.nili)],[]⟩),(.ret,⟨[(0,ii),(1,.ifc 289 (.und))],[]⟩)]
def F4 (x:I4.ty CC):Uc (zh CC O4):=XY x
def P4:Spec CC:=⟨127,2,I4,O4,F4⟩
theorem K4:P4.OK prog:=zhN (fn:=f127) (by kernel_rfl) (by kernel_rfl) (by kernel_rfl) (fun s hs v h w=>Tryz.strconv_ParseInt_10_at64_ok s hs v h w) (fun s hs h w Z hg hw=>by
    obtain ⟨⟨t,p,a⟩,_⟩:=hg
    refine (Tryz.strconv_ParseInt_10_at64_syntax s hs h _ w (hw 0 0 _ a) (.inr ⟨_,_,rfl⟩)).mono ?_
    rintro e w' ⟨N,rfl,_,_,hb⟩
    exact ⟨_,rfl,hb⟩) (fun s hs h w Z hg hw=>by
    obtain ⟨_,t,p,a⟩:=hg
    refine (Tryz.strconv_ParseInt_10_at64_range s hs h _ w (hw 1 0 _ a) (.inr ⟨_,_,rfl⟩)).mono ?_
    rintro e w' ⟨N,rfl,_,_,hb⟩
    exact ⟨_,rfl,hb⟩)
def P5:=spA false [] 76 1 f76 Kt Jk (hfind [(3,.cut JZ)])
theorem K5:P5.OK prog:=kA zf (by kernel_rfl)
def P6:=spA false [P4,P5] 75 2 f75 Hc [(.ret,HT)] (hfind [(5,.cut [(.normal,⟨[(0,.str),(1,ii),(2,ii),(6,.pc 0 0),(8,.str),(9,ii),(10,.nili)],[c40]⟩),(.normal,⟨[(0,.str),(1,ii),(2,ii),(6,.pc 0 0),(8,.str),(9,ii),(10,.ifc 289 (.und))],[c40]⟩)])])
theorem K6:P6.OK prog:=kA (za K4 (za K5 zf)) (by kernel_rfl)
def P7:=spA false [P5,P2] 78 1 f78 Kt Jk (hfind [(3,.cut JZ)])
theorem K7:P7.OK prog:=kA (za K5 (za K2 zf)) (by kernel_rfl)
def P8:=spA false [P7] 72 1 f72 HD Jw (hfind [(4,.loop HD H7),(7,.cut [(.normal,⟨[(0,.str),(1,ii),(2,.clo 78 []),(17,.bool)],[]⟩)])])
theorem K8:P8.OK prog:=kA (za K7 zf) (by kernel_rfl)
def P9:=spA false [] 128 1 f128 JT Jk (hfind [(9,.cut Jb),(13,.cut Jb),(17,.cut Jb),(21,.cut Jb),(25,.cut Jb),(29,.cut Jb),(33,.cut Jb),(37,.cut Jb),(41,.cut Jb),(45,.cut Jb),(49,.cut Jb),(53,.cut Jb),(57,.cut Jb),(61,.cut Jb),(65,.cut Jb),(69,.cut Jb),(73,.cut Jb),(77,.cut Jb),(81,.cut Jb)])
theorem K9:P9.OK prog:=kA zf (by kernel_rfl)
def P10:=spA false [P9] 77 2 f77 Hc [(.ret,HT)] (hfind [(15,.cut [(.normal,⟨[(6,.pc 0 0),(8,.pc 1 0)],[c40,c40]⟩)])])
theorem K10:P10.OK prog:=kA (za K9 zf) (by kernel_rfl)
def P11:=spA false [] 165 1 f165 Ks Jk (hfind [(3,.cut Jb)])
theorem K11:P11.OK prog:=kA zf (by kernel_rfl)
def P12:=spA false [P11] 129 1 f129 Ks Jk (hfind [])
theorem K12:P12.OK prog:=kA (za K11 zf) (by kernel_rfl)
def I13:Sig:=⟨[(0,.str),(1,.int .u8)],[]⟩
def O13:List (XK×Sig):=Jw
def F13 (x:I13.ty CC):Uc (zh CC O13):=wK x
def P13:Spec CC:=⟨130,1,I13,O13,F13⟩
theorem K13:P13.OK prog:=zgx (fn:=f130) (by kernel_rfl) (by kernel_rfl) (by kernel_rfl) fun s c w=>Tryz.strings_IndexByte s c w
def P14:=spA false [P12,P13] 79 1 f79 JT [(.ret,JT)] (hfind [(6,.loop ⟨[(0,.str),(5,.agg [.str,.str,.str]),(6,ii)],[]⟩ [(.ret,⟨[(2,.str)],[]⟩),(.exit 0,JT)])])
theorem K14:P14.OK prog:=kA (za K12 (za K13 zf)) (by kernel_rfl)
def P15:=spA false [P1,P2,P3,P6,P5,P8,P10,P14] 43 3 f43 JT [(.ret,⟨Kg,[.row 151]⟩)] (hfind [(2,.cut [(.ret,⟨[(2,.row 0),(3,ii),(4,ii)],[.row 151]⟩)]),(19,.loop ⟨JY,[.row 151]⟩ [JJ,(.exit 0,⟨[(0,.str),(5,.row 0)],[.row 151]⟩)]),(26,.cut [(.normal,⟨JY,[.row 151]⟩),JJ]),(36,.cut [(.normal,⟨[(0,.str),(5,.row 0),(6,ii),(7,.pc 1 0),(8,ii),(9,.int .u8),(29,.bool)],[.row 151,c40]⟩)]),(37,.cut [(.exit 1,⟨JY,[.row 151]⟩),JC]),(49,.cut [JC]),(53,.cut [JC]),(59,.cut [JC])])
theorem K15:P15.OK prog:=kA (za K1 (za K2 (za K3 (za K6 (za K5 (za K8 (za K10 (za K14 zf)))))))) (by kernel_rfl)
def P16:=spA false [] 45 1 f45 Jv [(.ret,Gd)] (hfind [])
theorem K16:P16.OK prog:=kA zf (by kernel_rfl)
def P17:=spA false [P16] 80 1 f80 ⟨Kj,[c2]⟩ [(.ret,Gl)] (hfind [(5,.cut [(.normal,⟨[(4,.bool)],[c2]⟩)])])
theorem K17:P17.OK prog:=kA (za K16 zf) (by kernel_rfl)
def P18:=spA false [P17] 46 1 f46 ⟨Kj,[c2]⟩ [(.ret,Gl)] (hfind [])
theorem K18:P18.OK prog:=kA (za K17 zf) (by kernel_rfl)
def P19:=spA false [P16] 84 0 f84 JX [Ja] (hfind [])
theorem K19:P19.OK prog:=kA (za K16 zf) (by kernel_rfl)
def P20:=spA false [P16,P19] 131 1 f131 JX [Ja,(.ret,Gd)] (hfind [])
theorem K20:P20.OK prog:=kA (za K16 (za K19 zf)) (by kernel_rfl)
def P21:=spA false [P20] 81 1 f81 Jv [Ja,(.ret,⟨Ht,[c2]⟩)] (hfind [])
theorem K21:P21.OK prog:=kA (za K20 zf) (by kernel_rfl)
def P22:=spA false [P18,P19] 48 0 f48 ⟨Kj,[c2]⟩ [Ja,(.ret,⟨[],[c2]⟩)] (hfind [])
theorem K22:P22.OK prog:=kA (za K18 (za K19 zf)) (by kernel_rfl)
def P23:=spA false [P16,P18,P22,P21] 85 1 f85 Jv [(.ret,⟨JU,[c2]⟩),Ja] (hfind [(14,.cut [Je,Ja]),(20,.cut [Je])])
theorem K23:P23.OK prog:=kA (za K16 (za K18 (za K22 (za K21 zf)))) (by kernel_rfl)
def P24:=spA false [P21,P22,P23] 83 1 f83 Jv [Ja,Jh] (hfind [])
theorem K24:P24.OK prog:=kA (za K21 (za K22 (za K23 zf))) (by kernel_rfl)
def P25:=spA false [P24,P18] 82 1 f82 ⟨[(0,.pc 0 0),(1,.clo 83 [.tup [.pc 0 0]])],[c2]⟩ [Ja,Kc] (hfind [(6,.loop ⟨[(0,.pc 0 0),(1,.clo 83 [.tup [.pc 0 0]]),(5,.row 1)],[c2,.row 112]⟩ [Ja,Kn])])
theorem K25:P25.OK prog:=kA (za K24 (za K18 zf)) (by kernel_rfl)
def P26:=spA false [] 167 1 f167 ⟨HK,[c11]⟩ [(.ret,⟨JU,[c11]⟩)] (hfind [])
theorem K26:P26.OK prog:=kA zf (by kernel_rfl)
def P27:=spA false [P22] 168 1 f168 ⟨JK,[c2]⟩ [Ja,(.ret,⟨JU,[c2]⟩)] (hfind [])
theorem K27:P27.OK prog:=kA (za K22 zf) (by kernel_rfl)
def P28:=spA false [P20] 173 1 f173 JX [Ja,(.ret,⟨[(0,ii)],[c2]⟩)] (hfind [])
theorem K28:P28.OK prog:=kA (za K20 zf) (by kernel_rfl)
def P29:=spA false [P21,P22,P28] 169 1 f169 JX [Ja,(.ret,⟨Ht,[c2]⟩)] (hfind [])
theorem K29:P29.OK prog:=kA (za K21 (za K22 (za K28 zf))) (by kernel_rfl)
def P30:=spA false [P18,P28] 174 1 f174 ⟨JK,[c2]⟩ [Ja,(.ret,⟨JU,[c2]⟩)] (hfind [(6,.cut [Ja,(.normal,HA)]),(10,.cut [Ja,(.normal,HA)])])
theorem K30:P30.OK prog:=kA (za K18 (za K28 zf)) (by kernel_rfl)
def P31:=spA false [P16,P28,P18,P21,P30] 133 1 f133 Jv [Ja,(.ret,⟨JU,[c2]⟩)] (hfind [(8,.cut [Ja,(.ret,⟨[(2,.pc 1 0)],[c2,c1]⟩),Jo]),(20,.cut [Ja,(.normal,Jr)])])
theorem K31:P31.OK prog:=kA (za K16 (za K28 (za K18 (za K21 (za K30 zf))))) (by kernel_rfl)
def P32:=spA false [P18,P19] 134 1 f134 Jv [(.ret,⟨[(0,.str)],[c2]⟩),Ja] (hfind [(6,.loop ⟨[(0,.pc 0 0),(5,.agg [.str,.str,.str]),(6,ii)],[c2]⟩ [(.ret,⟨[(2,.str)],[c2]⟩),(.exit 0,Jv)])])
theorem K32:P32.OK prog:=kA (za K18 (za K19 zf)) (by kernel_rfl)
def P33:=spA false [P31,P32] 89 1 f89 Jv [Ja,Jh] (hfind [(7,.draw (od [1,3,5,7,9,10,12,15,16]) [])])
theorem K33:P33.OK prog:=kA (za K31 (za K32 zf)) (by kernel_rfl)
def P34:=spA false [P31,P18] 82 1 f82 ⟨[(0,.pc 0 0),(1,.clo 133 [.tup [.pc 0 0]])],[c2]⟩ [Ja,Kc] (hfind [(6,.loop ⟨[(0,.pc 0 0),(1,.clo 133 [.tup [.pc 0 0]]),(5,.row 1)],[c2,.row 112]⟩ [Ja,Kn])])
theorem K34:P34.OK prog:=kA (za K31 (za K18 zf)) (by kernel_rfl)
def P35:=spA false [P22,P18,P34] 171 1 f171 Jv [Ja,Kc] (hfind [])
theorem K35:P35.OK prog:=kA (za K22 (za K18 (za K34 zf))) (by kernel_rfl)
def I36:Sig:=Jv
def O36:List (XK×Sig):=[Ja,(.ret,⟨JU,[c2]⟩)]
def H36:Nat->Uc Hint:=hfind [(8,.cut [Ja,(.ret,Jr),Je]),(16,.cut [Ja,(.ret,Jr),Je]),(24,.cut [Ja,(.ret,Jr),Je]),(30,.cut [Je]),(51,.cut [Ja,KM,Je]),(59,.cut [Ja,KM,Je]),(69,.cut [Ja,KM,Je]),(70,.loop KJ []),(83,.cut [(.normal,⟨[(0,.pc 0 0),(2,.pc 1 0),(3,.pc 2 0),(4,.str),(5,ii),(69,.pc 3 0),(87,.bool)],[c2,c1,c1,.cell []]⟩)]),(84,.cut [(.pan (.ifc 144 (.agg [ii,ii])),⟨[],[c2,c1,c1,.cell []]⟩),(.ret,⟨[(2,.pc 1 0)],[c2,c8,c1,.cell [],.row 112]⟩),(.normal,KJ)]),(88,.draw (od [1,3,5,7,9,10,12,15,16]) [])]
def F36 (x:I36.ty CC):Uc (zh CC O36):=zm1 ⟨false⟩ [P16,P18,P28,P21,P31,P17,P35,P22,P30] lpO prog f188 1 I36 O36 H36 x
def P36:Spec CC:=⟨188,1,I36,O36,F36⟩
theorem K36:Spec.OK prog P36:=zvt (za K16 (za K18 (za K28 (za K21 (za K31 (za K17 (za K35 (za K22 (za K30 zf))))))))) ZF ZE H36 (by kernel_rfl) (by kernel_rfl) (by kernel_rfl) fun x=>rfl
def P37:=spA false [P17,P35,P18,P31,P22,P36] 172 1 f172 ⟨JK,[c2]⟩ [Ja,Jh] (hfind [(6,.cut [Ja,(.ret,HL),(.normal,Ho)]),(16,.cut [Ja,(.ret,HL),(.normal,Ho)]),(24,.draw (od [1,3,5,6,8,10,13,14]) [])])
theorem K37:P37.OK prog:=kA (za K17 (za K35 (za K18 (za K31 (za K22 (za K36 zf)))))) (by kernel_rfl)
def I38:Sig:=⟨HI,[c2]⟩
def O38:List (XK×Sig):=[Ja,Jh]
def H38:Nat->Uc Hint:=hfind [(7,.draw (od [1,3,5,6,8,10,13,14]) [])]
def I39:Sig:=Jv
def O39:List (XK×Sig):=[Ja,(.ret,⟨JU,[c2]⟩)]
def H39:Nat->Uc Hint:=hfind [(10,.cut [Ja,(.ret,Jr),Jo]),(20,.cut [Ja,(.ret,Jr),Jo]),(22,.cut [Ja,(.normal,Jr)]),(26,.cut [Ja,(.ret,Jr),Jo]),(28,.cut [Ja,(.normal,Jr)]),(32,.cut [Ja,(.ret,Jr),Jo]),(38,.cut [Ja,(.normal,⟨[(2,.pc 1 0),(6,.pc 2 0)],JV⟩)]),(39,.draw (od [1,3,5,6,8,10,13,14]) []),(46,.cut [Ja,(.ret,Jr),Jo]),(52,.cut [Ja,(.ret,Jr),Jo]),(58,.cut [Ja,(.normal,⟨[(0,.pc 0 0),(2,.pc 1 0),(7,.pc 2 0)],JV⟩)]),(66,.cut [Ja,(.ret,Jr),Jo]),(72,.cut [Ja,(.ret,Jr),Jo]),(82,.cut [Ja,(.normal,Jr)])]
def I40:Sig:=Jv
def O40:List (XK×Sig):=[Ja,Jh]
def H40:Nat->Uc Hint:=hfind [(6,.cut [(.normal,⟨[(0,.pc 0 0),(2,.pc 1 0),(3,.pc 2 0),(16,.bool)],[c2,c1,c1]⟩)]),(16,.loop H5 [Ja,(.exit 0,H5)]),(24,.draw (od [1,3,5,6,8,10,13,14]) [])]
def zgG (h:I40.ty CC->Uc (zh CC O40)):Spec CC:=⟨86,1,I40,O40,h⟩
def zm6 (h:I40.ty CC->Uc (zh CC O40)) (x:I38.ty CC):Uc (zh CC O38):=XR ⟨false⟩ [P33,zgG h] lpO prog f170 1 I38 O38 H38 x
def zwE (h:I40.ty CC->Uc (zh CC O40)):Spec CC:=⟨170,1,I38,O38,zm6 h⟩
theorem zzt {h:I40.ty CC->Uc (zh CC O40)}(hh:Spec.OK prog (zgG h)):Spec.OK prog (zwE h):=yC (za K33 (za hh zf)) ZF ZE H38 (by kernel_rfl) (by kernel_rfl) (by kernel_rfl) fun x=>rfl
def zm7 (h:I40.ty CC->Uc (zh CC O40)) (x:I39.ty CC):Uc (zh CC O39):=XR ⟨false⟩ [P16,P18,P21,P26,P27,P29,zwE h,zgG h,P17,P31,P35,P37] lpO prog f132 1 I39 O39 H39 x
def zwF (h:I40.ty CC->Uc (zh CC O40)):Spec CC:=⟨132,1,I39,O39,zm7 h⟩
theorem zzu {h:I40.ty CC->Uc (zh CC O40)}(hh:Spec.OK prog (zgG h)):Spec.OK prog (zwF h):=yC (za K16 (za K18 (za K21 (za K26 (za K27 (za K29 (za (zzt hh) (za hh (za K17 (za K31 (za K35 (za K37 zf)))))))))))) ZF ZE H39 (by kernel_rfl) (by kernel_rfl) (by kernel_rfl) fun x=>rfl
def zm8 (h:I40.ty CC->Uc (zh CC O40)) (x:I40.ty CC):Uc (zh CC O40):=XR ⟨false⟩ [P16,P17,P19,P22,P18,zwF h] lpO prog f86 1 I40 O40 H40 x
def zzv (h:I40.ty CC->Uc (zh CC O40)):Spec CC:=⟨86,1,I40,O40,zm8 h⟩
theorem zzw {h:I40.ty CC->Uc (zh CC O40)}(hh:Spec.OK prog (zgG h)):Spec.OK prog (zzv h):=yC (za K16 (za K17 (za K19 (za K22 (za K18 (za (zzu hh) zf)))))) ZF ZE H40 (by kernel_rfl) (by kernel_rfl) (by kernel_rfl) fun x=>rfl
def zj0:Nat->I40.ty CC->Uc (zh CC O40)
  |0=>fun _=>none
  |k+1=>zm8 (zj0 k)
theorem zwG:∀ k,Spec.OK prog (zgG (zj0 k))
  |0=>⟨f86,by kernel_rfl,by kernel_rfl,by kernel_rfl,fun x r h=>by cases h⟩
  |k+1=>zzw (zwG k)
def F40 (x:I40.ty CC):Uc (zh CC O40):=zj0 100000 x
def P40:Spec CC:=⟨86,1,I40,O40,F40⟩
theorem K40:Spec.OK prog P40:=zwG 100000
def P41:=spA false [P21,P22,P17,P25,P18,P19,P23,P16,P40] 47 1 f47 JX [Ja,Jh] (hfind [(11,.cut [Ja,Ku]),(21,.cut [Ja,(.normal,⟨[(0,.pc 0 0),(4,.pc 1 0),(5,.pc 2 0),(6,.pc 3 0)],[c2,c1,c8,c6,.row 112]⟩)]),(31,.draw (od [1,3,5,7,8,10,12,15,16]) [])])
theorem K41:P41.OK prog:=kA (za K21 (za K22 (za K17 (za K25 (za K18 (za K19 (za K23 (za K16 (za K40 zf))))))))) (by kernel_rfl)
def P42:=spA false [P16,P18,P21,P19] 87 1 f87 Jv [Jh,Ja] (hfind [(9,.cut [(.normal,⟨[(0,.pc 0 0),(2,.pc 1 0),(3,.pc 2 0),(13,.bool)],[c2,c1,c1]⟩)]),(12,.cut [KO,Ja]),(17,.cut KY),(21,.cut KY),(24,.cut [Ja,KO])])
theorem K42:P42.OK prog:=kA (za K16 (za K18 (za K21 (za K19 zf)))) (by kernel_rfl)
def P43:=spA false [P21,P18,P22] 88 1 f88 Jv [Ja,Jh] (hfind [(9,.cut [Ja,KO])])
theorem K43:P43.OK prog:=kA (za K21 (za K18 (za K22 zf))) (by kernel_rfl)
def P44:=spA false [P43,P18] 82 1 f82 ⟨[(0,.pc 0 0),(1,.clo 88 [.tup [.pc 0 0]])],[c2]⟩ [Ja,Kc] (hfind [(6,.loop ⟨[(0,.pc 0 0),(1,.clo 88 [.tup [.pc 0 0]]),(5,.row 1)],[c2,.row 112]⟩ [Ja,Kn])])
theorem K44:P44.OK prog:=kA (za K43 (za K18 zf)) (by kernel_rfl)
def P45:=spA false [P33,P18] 82 1 f82 ⟨[(0,.pc 0 0),(1,.clo 89 [.tup [.pc 0 0]])],[c2]⟩ [Ja,Kc] (hfind [(6,.loop ⟨[(0,.pc 0 0),(1,.clo 89 [.tup [.pc 0 0]]),(5,.row 1)],[c2,.row 112]⟩ [Ja,Kn])])
theorem K45:P45.OK prog:=kA (za K33 (za K18 zf)) (by kernel_rfl)
def P46:=spA false [P21,P42,P18,P44,P22,P45] 49 1 f49 JX [Ja,Jh] (hfind [(9,.cut [Ja,Ku]),(11,.draw (od [1,3,5,7,9,10,12,15,16]) []),(17,.cut [Ja,Ku]),(18,.draw (od [1,3,5,7,9,10,12,15,16]) [])])
theorem K46:P46.OK prog:=kA (za K21 (za K42 (za K18 (za K44 (za K22 (za K45 zf)))))) (by kernel_rfl)
def I47:Sig:=⟨JU,[]⟩
def O47:List (XK×Sig):=Jw
def H47:Nat->Uc Hint:=hfind [(8,.loop ⟨[(3,ii),(7,.sl 112),(8,ii),(9,ii)],[]⟩ Gp)]
def zrC (h:I47.ty CC->Uc (zh CC O47)):Spec CC:=⟨50,1,I47,O47,h⟩
def zm9 (h:I47.ty CC->Uc (zh CC O47)) (x:I47.ty CC):Uc (zh CC O47):=XR ⟨false⟩ [zrC h] lpO prog f50 1 I47 O47 H47 x
def zzx (h:I47.ty CC->Uc (zh CC O47)):Spec CC:=⟨50,1,I47,O47,zm9 h⟩
theorem zzy {h:I47.ty CC->Uc (zh CC O47)}(hh:Spec.OK prog (zrC h)):Spec.OK prog (zzx h):=yC (za hh zf) ZF ZE H47 (by kernel_rfl) (by kernel_rfl) (by kernel_rfl) fun x=>rfl
def zj1:Nat->I47.ty CC->Uc (zh CC O47)
  |0=>fun _=>none
  |k+1=>zm9 (zj1 k)
theorem zwH:∀ k,Spec.OK prog (zrC (zj1 k))
  |0=>⟨f50,by kernel_rfl,by kernel_rfl,by kernel_rfl,fun x r h=>by cases h⟩
  |k+1=>zzy (zwH k)
def F47 (x:I47.ty CC):Uc (zh CC O47):=zj1 100000 x
def P47:Spec CC:=⟨50,1,I47,O47,F47⟩
theorem K47:Spec.OK prog P47:=zwH 100000
def I48:Sig:=⟨[(0,.pc 0 0),(1,.pc 1 0),(2,.pc 2 0),(3,.ifc 144 (.agg [ii,ii]))],KU⟩
def O48:List (XK×Sig):=[(.ret,⟨[],[c1,c11,c11,.row 112]⟩)]
def H48:Nat->Uc Hint:=hfind [(5,.draw (od [1,3,5,7,9,10,12,14]) [])]
def F48 (x:I48.ty CC):Uc (zh CC O48):=zbo ⟨false⟩ [] lpO prog f44 0 I48 O48 H48 x
def P48:Spec CC:=⟨44,0,I48,O48,F48⟩
theorem K48:Spec.OKD prog P48:=vy zf ZF ZE H48 (by kernel_rfl) (by kernel_rfl) (by kernel_rfl) fun x=>rfl
def I49:Sig:=⟨KH,KU⟩
def O49:List (XK×Sig):=[(.ret,⟨[],KU⟩)]
def H49:Nat->Uc Hint:=hfind []
def F49 (x:I49.ty CC):Uc (zh CC O49):=zbo ⟨false⟩ [] lpO prog f44 0 I49 O49 H49 x
def P49:Spec CC:=⟨44,0,I49,O49,F49⟩
theorem K49:Spec.OKD prog P49:=vy zf ZF ZE H49 (by kernel_rfl) (by kernel_rfl) (by kernel_rfl) fun x=>rfl
def I50:Sig:=JT
def O50:List (XK×Sig):=[(.ret,⟨[(0,.val 112),(1,ii),(2,ii)],[]⟩)]
def H50:Nat->Uc Hint:=hfind [(9,.draw (od [1,3,5,6,8,10]) []),(13,.loop ⟨[(2,.pc 0 0),(3,.pc 1 0),(4,.pc 2 0),(5,.sl 151),(19,.clo 44 [.pc 0 0,.pc 1 0,.pc 2 0])],[c1,c11,c11]⟩ []),(18,.loop ⟨[(2,.pc 0 0),(3,.pc 1 0),(4,.pc 2 0),(6,.pc 3 0)],[c8,c11,c11,c2,.row 112]⟩ [(.pan (.ifc 144 (.agg [ii,ii])),⟨Hf,KU⟩),(.exit 0,⟨Hf,KU⟩)]),(25,.cut Jn),(33,.draw (od [1,3,5,7,11,13,8,14,17,21,9366,22,18]) Jn),(38,.draw (od [1,3,5,7,11,13,8,14,17,21,9366,22,18]) Jn)]
def F50 (x:I50.ty CC):Uc (zh CC O50):=zgy ⟨false⟩ [P15,P16,P18,P41,P22,P46,P47] (P49) (P48) lpO prog f28 3 I50 O50 H50 x
def P50:Spec CC:=⟨28,3,I50,O50,F50⟩
theorem K50:Spec.OK prog P50:=zgz (za K15 (za K16 (za K18 (za K41 (za K22 (za K46 (za K47 zf))))))) K49 K48 ZF ZE H50 (by kernel_rfl) (by kernel_rfl) (by kernel_rfl) fun x=>rfl
def P51:=spA false [] 113 2 f113 ⟨JU,[]⟩ [(.ret,⟨[(0,.row 0),(1,.row 1)],[.row 112,.row 112]⟩)] (hfind [(6,.loop JS [(.exit 0,⟨[(2,.row 0),(3,.row 1)],[.row 112,.row 112]⟩)]),(22,.cut [(.normal,JS)]),(26,.cut [(.normal,JS)])])
theorem K51:P51.OK prog:=kA zf (by kernel_rfl)
def P52:=spA false [] 143 1 f143 ⟨[(0,.val 65),(1,.pc 0 0)],[c20]⟩ Ko (hfind [])
theorem K52:P52.OK prog:=kA zf (by kernel_rfl)
def P53:=spA false [P52] 142 1 f142 ⟨[(0,.sl 65),(1,.clo 143 [.pc 0 0])],[c20]⟩ KQ (hfind [(6,.loop ⟨[(0,.sl 65),(1,.clo 143 [.pc 0 0]),(7,ii),(8,ii)],[c20]⟩ JW)])
theorem K53:P53.OK prog:=kA (za K52 zf) (by kernel_rfl)
def P54:=spA false [P53] 100 1 f100 ⟨[(0,.sl 65),(1,.str)],[]⟩ Jw (hfind [])
theorem K54:P54.OK prog:=kA (za K53 zf) (by kernel_rfl)
def P55:=spA false [] 114 0 f114 ⟨[(0,.bool),(1,.val 112),(2,ii)],[]⟩ [J6,(.ret,⟨[],[]⟩)] (hfind [])
theorem K55:P55.OK prog:=kA zf (by kernel_rfl)
def P56:=spA false [] 158 1 f158 ⟨HK,[c20]⟩ Ko (hfind [])
theorem K56:P56.OK prog:=kA zf (by kernel_rfl)
def P57:=spA false [P56] 159 1 f159 Hw KQ (hfind [(6,.loop ⟨[(0,.sl 112),(1,.clo 158 [.pc 0 0]),(7,ii),(8,ii)],[c20]⟩ JW)])
theorem K57:P57.OK prog:=kA (za K56 zf) (by kernel_rfl)
def P58:=spA false [P57] 157 1 f157 Hw Ko (hfind [])
theorem K58:P58.OK prog:=kA (za K57 zf) (by kernel_rfl)
def P59:=spA false [P58] 115 1 f115 ⟨[(0,.sl 112),(1,.str)],[]⟩ Jk (hfind [])
theorem K59:P59.OK prog:=kA (za K58 zf) (by kernel_rfl)
def P60:=spA false [] 160 1 f160 ⟨HK,[c20]⟩ Ko (hfind [(3,.cut [(.normal,⟨[(3,.bool)],[c20]⟩)])])
theorem K60:P60.OK prog:=kA zf (by kernel_rfl)
def P61:=spA false [P60] 159 1 f159 ⟨[(0,.sl 112),(1,.clo 160 [.pc 0 0])],[c20]⟩ KQ (hfind [(6,.loop ⟨[(0,.sl 112),(1,.clo 160 [.pc 0 0]),(7,ii),(8,ii)],[c20]⟩ JW)])
theorem K61:P61.OK prog:=kA (za K60 zf) (by kernel_rfl)
def P62:=spA false [P61] 116 1 f116 ⟨[(0,.val 65),(1,.str),(2,.sl 112)],[]⟩ Jw (hfind [])
theorem K62:P62.OK prog:=kA (za K61 zf) (by kernel_rfl)
def P63:=spA false [] 161 1 f161 ⟨[(0,.sl 9),(1,.str)],[]⟩ Jw (hfind [(6,.loop ⟨[(0,.sl 9),(1,.str),(7,ii),(8,ii)],[]⟩ KE)])
theorem K63:P63.OK prog:=kA zf (by kernel_rfl)
def P64:=spA false [P63,P62,P55,P54] 117 0 f117 ⟨[(0,.sl 65),(1,.pc 0 0),(2,.val 112),(3,.sl 112),(4,.sl 112)],KP⟩ [Jj,(.ret,⟨[],KP⟩)] (hfind [(10,.cut [(.normal,⟨[(0,.sl 65),(1,.pc 0 0),(3,.sl 112),(4,.sl 112),(7,.pc 3 0),(20,ii),(21,.bool)],[c16,.row 229,.row 283,c6]⟩)]),(13,.cut [Jj,(.normal,⟨[],KP⟩)]),(15,.draw (od [1,3,5,7,9,11,13,15,17,19,20,23,25,26]) []),(16,.draw (od [1,3,5,7,9,11,12]) []),(19,.cut [Jj,(.normal,⟨[],KP⟩)]),(23,.draw (od [1,3,5,7,9,11,13,15,17,19,21,23,25,27,29,31,33,34]) [Jj,(.normal,⟨[(3,.sl 112),(4,.sl 112),(7,.pc 3 0)],[c16,.row 229,.row 283,c6]⟩)])])
theorem K64:P64.OK prog:=kA (za K63 (za K62 (za K55 (za K54 zf)))) (by kernel_rfl)
def P65:=spA false [] 162 1 f162 Hx [(.ret,⟨[(0,.row 0)],[.row 283]⟩)] (hfind [(8,.cut Hu),(14,.cut Hu)])
theorem K65:P65.OK prog:=kA zf (by kernel_rfl)
def P66:=spA false [P62,P55,P65] 118 0 f118 ⟨[(0,.pc 0 0),(1,.val 112),(2,.sl 112)],KP⟩ [Jj,(.ret,⟨[],[.cell [.str,ii,ii,.row 1,.row 3],.row 229,.gone,.row 283]⟩)] (hfind [(8,.loop J7 [Jj,(.exit 0,⟨[(0,.pc 0 0),(4,.pc 3 0),(6,.pc 4 0)],Gm⟩)]),(16,.cut [(.normal,J7),Jj]),(26,.draw (od [1,3,5,7,9,11,12,15]) []),(28,.draw (od [1,3,5,7,9,11,13,15,17,19,21,23,25,27,29,31,33,35,37,39,41,43,45,47,49,51,52]) [Jj,(.normal,⟨[(0,.pc 0 0),(2,.sl 112),(4,.pc 3 0),(6,.pc 4 0),(7,ii),(9,ii),(11,.sl 112),(12,ii),(13,ii)],Gm⟩)]),(29,.cut [(.normal,J7)]),(31,.draw (od [1,3,5,7,9,11,13,15,17,19,21,23,25,27,29,31,33,35,37,39,41,42,44,47,49,50]) [])])
theorem K66:P66.OK prog:=kA (za K62 (za K55 (za K65 zf))) (by kernel_rfl)
def P67:=spA true [P51,P54,P55,P59,P62,P64,P66] 68 1 f68 ⟨[(0,.sl 65),(1,.val 112)],[]⟩ [J6,(.ret,⟨[(0,.agg [.str,ii,ii,.row 0,.row 1])],[.row 229,.row 283]⟩)] (hfind [(7,.draw (od [1,3,5,11,6,9,12]) []),(14,.loop Ka [J6,(.exit 0,⟨[(0,.sl 65),(3,.pc 0 0),(4,.pc 1 0),(5,.sl 112),(6,.row 2),(7,.pc 3 0)],[c6,c10,.row 112,c49,.row 229]⟩)]),(22,.cut [J6,(.normal,Ka)]),(26,.draw (od [1,3,5,7,9,15,10,13,16]) []),(32,.cut [J6,(.normal,JM)]),(34,.draw (od [1,3,5,7,9,11,13,14,17]) []),(35,.draw (od [1,3,5,7,9,11,13,15,17,19,21,22]) [J6,(.normal,JM)]),(45,.loop ⟨[(4,.pc 0 0),(5,.sl 112),(7,.pc 1 0),(91,.sl 112),(92,ii),(93,ii)],[c10,c30,.row 229,.row 283]⟩ [J6,(.exit 2,⟨[(4,.pc 0 0),(7,.pc 1 0)],[c10,c30,.row 229,.row 283]⟩)])])
theorem K67:P67.OK prog:=kA (za K51 (za K54 (za K55 (za K59 (za K62 (za K64 (za K66 zf))))))) (by kernel_rfl)
def I68:Sig:=⟨[(0,.pc 0 0),(1,.pc 1 0),(2,.pc 2 0),(3,.ifc 190 (.agg [ii,ii]))],HY⟩
def O68:List (XK×Sig):=[(.ret,⟨[],[c26,c11,c11,.row 65]⟩)]
def H68:Nat->Uc Hint:=hfind [(5,.draw (od [1,3,5,7,8,10,12]) [])]
def F68 (x:I68.ty CC):Uc (zh CC O68):=zbo ⟨false⟩ [] lpO prog f67 0 I68 O68 H68 x
def P68:Spec CC:=⟨67,0,I68,O68,F68⟩
theorem K68:Spec.OKD prog P68:=vy zf ZF ZE H68 (by kernel_rfl) (by kernel_rfl) (by kernel_rfl) fun x=>rfl
def I69:Sig:=⟨KH,HY⟩
def O69:List (XK×Sig):=[(.ret,⟨[],HY⟩)]
def H69:Nat->Uc Hint:=hfind []
def F69 (x:I69.ty CC):Uc (zh CC O69):=zbo ⟨false⟩ [] lpO prog f67 0 I69 O69 H69 x
def P69:Spec CC:=⟨67,0,I69,O69,F69⟩
theorem K69:Spec.OKD prog P69:=vy zf ZF ZE H69 (by kernel_rfl) (by kernel_rfl) (by kernel_rfl) fun x=>rfl
def I70:Sig:=⟨JU,[]⟩
def O70:List (XK×Sig):=[(.ret,⟨Kg,[.row 65]⟩)]
def H70:Nat->Uc Hint:=hfind [(3,.loop ⟨[(1,.pc 0 0),(2,.pc 1 0),(3,.pc 2 0),(4,.pc 3 0),(7,.clo 67 [.pc 1 0,.pc 2 0,.pc 3 0])],[c6,c26,c11,c11]⟩ []),(8,.loop ⟨[(2,.pc 1 0),(3,.pc 2 0),(4,.pc 3 0),(9,.sl 112),(10,ii),(11,ii)],[c6,c38,c11,c11,.row 65]⟩ [(.pan (.ifc 190 (.agg [ii,ii])),KW),(.exit 0,KW)]),(21,.cut JH),(22,.draw (od [3,5,8198,8200,8,0,10,12,6,8,10,12]) JH)]
def F70 (x:I70.ty CC):Uc (zh CC O70):=zgy ⟨false⟩ [P67] (P69) (P68) lpO prog f39 3 I70 O70 H70 x
def P70:Spec CC:=⟨39,3,I70,O70,F70⟩
theorem K70:Spec.OK prog P70:=zgz (za K67 zf) K69 K68 ZF ZE H70 (by kernel_rfl) (by kernel_rfl) (by kernel_rfl) fun x=>rfl
def P71:=spA false [P63,P54] 119 2 f119 KZ [(.ret,⟨[(0,.val 61),(1,ii)],[]⟩)] (hfind [(7,.cut [(.ret,⟨[(4,.pc 0 0),(5,ii)],[c9]⟩),(.normal,⟨HN,[c9,c9]⟩)])])
theorem K71:P71.OK prog:=kA (za K63 (za K54 zf)) (by kernel_rfl)
def P72:=spA false [] 120 1 f120 ⟨Hi,[c9]⟩ [(.ret,Gk)] (hfind [])
theorem K72:P72.OK prog:=kA zf (by kernel_rfl)
def P73:=spA false [P72] 34 1 f34 Hn [(.ret,HZ)] (hfind [(6,.loop ⟨[(0,.row 0),(1,.clo 120 [.pc 1 0]),(7,ii),(8,ii)],[.row 61,c9]⟩ Hj)])
theorem K73:P73.OK prog:=kA (za K72 zf) (by kernel_rfl)
def P74:=spA false [P73] 20 1 f20 Hn [(.ret,HV)] (hfind [])
theorem K74:P74.OK prog:=kA (za K73 zf) (by kernel_rfl)
def P75:=spA false [] 121 1 f121 ⟨[(0,.val 61),(1,.sl 65)],[]⟩ Jk (hfind [(3,.cut Jb)])
theorem K75:P75.OK prog:=kA zf (by kernel_rfl)
def P76:=spA false [] 122 1 f122 ⟨Hi,[c9]⟩ [(.ret,Gk)] (hfind [(3,.cut [(.normal,⟨[(3,.bool)],[c9]⟩)])])
theorem K76:P76.OK prog:=kA zf (by kernel_rfl)
def P77:=spA false [P76] 34 1 f34 Hm [(.ret,HZ)] (hfind [(6,.loop ⟨[(0,.row 0),(1,.clo 122 [.pc 1 0]),(7,ii),(8,ii)],[.row 61,c9]⟩ Hj)])
theorem K77:P77.OK prog:=kA (za K76 zf) (by kernel_rfl)
def P78:=spA false [P77] 20 1 f20 Hm [(.ret,HV)] (hfind [])
theorem K78:P78.OK prog:=kA (za K77 zf) (by kernel_rfl)
def P79:=spA false [P71,P74,P75,P78] 69 3 f69 KZ [(.ret,⟨[(0,.val 130),(1,ii),(2,ii)],[]⟩)] (hfind [(11,.draw (od [1,3,5,6,9,11]) []),(18,.loop ⟨[(1,.sl 65),(2,.pc 0 0),(4,.pc 1 0),(7,.pc 2 0),(8,ii),(29,.sl 112),(30,ii),(31,ii)],[c6,c17,c33,.row 61]⟩ [J2,(.exit 0,⟨[(1,.sl 65),(2,.pc 0 0),(4,.pc 1 0),(7,.pc 2 0),(8,ii)],[c6,c17,c33,.row 61]⟩)]),(37,.cut [J2,(.normal,Kh)]),(39,.draw (od [1,3,5,6,9,11]) []),(43,.cut [J2,(.normal,Kh)]),(45,.draw (od [1,3,5,7,9,11,13,14,17,19]) []),(48,.cut [(.normal,⟨[(1,.sl 65),(2,.pc 0 0),(4,.pc 1 0),(7,.pc 2 0),(8,ii),(10,.pc 3 0),(11,.pc 4 0),(29,.sl 112),(30,ii),(31,ii),(65,.bool)],[c6,c17,c43,c6,c9,.row 61]⟩)]),(51,.draw (od [1,3,5,7,9,11,12,15,17]) []),(65,.draw (od [1,3,5,7,9,11,13,15,16,19,21]) [])])
theorem K79:P79.OK prog:=kA (za K71 (za K74 (za K75 (za K78 zf)))) (by kernel_rfl)
def P80:=spA false [P79] 40 3 f40 KZ [(.ret,⟨Kg,[.row 130]⟩)] (hfind [(8,.loop KR [Kq,(.exit 0,⟨[(7,.row 0)],[.row 130]⟩)]),(16,.cut [(.normal,KR),Kq])])
theorem K80:P80.OK prog:=kA (za K79 zf) (by kernel_rfl)
def P81:=spA false [] 135 1 f135 Kt Jk (hfind [(3,.cut JZ)])
theorem K81:P81.OK prog:=kA zf (by kernel_rfl)
def P82:=spA false [] 136 1 f136 Kt Jk (hfind [(3,.cut JZ)])
theorem K82:P82.OK prog:=kA zf (by kernel_rfl)
def P83:=spA false [] 137 1 f137 JT Jk (hfind [(9,.cut Jb),(13,.cut Jb),(17,.cut Jb),(21,.cut Jb),(25,.cut Jb),(29,.cut Jb),(33,.cut Jb),(37,.cut Jb),(41,.cut Jb),(45,.cut Jb),(49,.cut Jb),(53,.cut Jb),(57,.cut Jb),(61,.cut Jb),(65,.cut Jb),(69,.cut Jb),(73,.cut Jb),(77,.cut Jb),(81,.cut Jb)])
theorem K83:P83.OK prog:=kA zf (by kernel_rfl)
def P84:=spA false [] 138 1 f138 Gb Jw (hfind [(7,.cut [(.normal,⟨[(0,.str),(1,ii),(5,.str)],[]⟩)]),(12,.cut [(.normal,⟨[(0,.str),(1,ii),(25,.bool)],[]⟩)]),(25,.cut Jq),(29,.cut Jq),(33,.cut Jq),(37,.cut Jq),(41,.cut Jq),(45,.cut Jq),(49,.cut Jq),(53,.cut Jq),(57,.cut Jq),(61,.cut Jq),(65,.cut Jq),(69,.cut Jq),(73,.cut Jq)])
theorem K84:P84.OK prog:=kA zf (by kernel_rfl)
def P85:=spA false [P81,P82,P83,P84] 90 2 f90 Gb [(.ret,⟨[(0,.val 164),(1,ii)],[]⟩)] (hfind [(13,.cut [(.ret,HR),(.normal,⟨[(0,.str),(1,ii),(4,.pc 0 0),(6,.pc 1 0),(7,ii),(9,.bool)],[c19,c19]⟩)]),(16,.loop Ha [(.exit 0,Ha)]),(30,.cut [(.normal,⟨[(0,.str),(1,ii),(4,.pc 0 0),(6,.pc 1 0),(7,ii),(47,.bool)],[c19,c19]⟩)]),(52,.cut [(.normal,⟨HN,[c19,c19]⟩)]),(62,.cut [(.ret,HR),(.normal,⟨[(0,.str),(1,ii),(4,.pc 0 0),(6,.pc 1 0)],[c19,c19]⟩)]),(69,.loop J4 [(.exit 2,J4)]),(88,.cut [(.normal,J4)]),(94,.cut [(.normal,J4)]),(103,.cut [(.normal,⟨[(0,.str),(1,ii),(4,.pc 0 0),(6,.pc 1 0),(7,ii),(13,ii),(14,.bool),(16,.bool)],[c19,c19]⟩)]),(108,.cut [(.normal,⟨[(0,.str),(1,ii),(4,.pc 0 0),(6,.pc 1 0),(7,ii),(13,ii),(115,.bool)],[c19,c19]⟩)])])
theorem K85:P85.OK prog:=kA (za K81 (za K82 (za K83 (za K84 zf)))) (by kernel_rfl)
def P86:=spA false [P85] 51 3 f51 JT [(.ret,⟨Kg,[.row 164]⟩)] (hfind [(16,.loop ⟨JY,[.row 164]⟩ [JJ,(.exit 0,⟨[(0,.str),(5,.row 0)],[.row 164]⟩)]),(23,.cut [(.normal,⟨JY,[.row 164]⟩),JJ]),(26,.cut [(.normal,⟨[(0,.str),(5,.row 0),(6,ii),(25,.bool)],[.row 164]⟩)]),(38,.loop ⟨JY,[.row 164]⟩ [(.exit 2,⟨JY,[.row 164]⟩)]),(41,.cut [(.normal,⟨[(0,.str),(5,.row 0),(6,ii),(41,.bool)],[.row 164]⟩)])])
theorem K86:P86.OK prog:=kA (za K85 zf) (by kernel_rfl)
def P87:=spA false [] 91 1 f91 ⟨Kj,[c3,.row 164]⟩ [(.ret,HS)] (hfind [(3,.draw (od [1,3,5,7,9,11,13,15,17,19,21,23]) []),(5,.draw (od [1,3,5,7,9,11,13,15,17,19,21,23,25,27,29,31,33,35,37,39,41,43,45,47,49,51,53,55,57]) [(.normal,⟨[(4,.bool)],[c3,.row 164]⟩)])])
theorem K87:P87.OK prog:=kA zf (by kernel_rfl)
def P88:=spA false [P87] 52 1 f52 ⟨Kj,[c3,.row 164]⟩ [(.ret,HS)] (hfind [(7,.cut [(.normal,⟨[(5,.bool)],[c3,.row 164]⟩)])])
theorem K88:P88.OK prog:=kA (za K87 zf) (by kernel_rfl)
def P89:=spA false [] 94 0 f94 KI [(.ret,Hh)] (hfind [(2,.cut [(.normal,Hh)]),(5,.draw (od [1,3,5,7,9,11,13,15,17,19,21,23,25,27,28]) [])])
theorem K89:P89.OK prog:=kA zf (by kernel_rfl)
def P90:=spA false [P89] 92 1 f92 Jl [(.ret,⟨Ht,[c3,.row 164]⟩)] (hfind [(3,.draw (od [1,3,5,7,9,11,13,15,17,19,20,22]) []),(6,.cut [(.normal,⟨[(0,.pc 0 0),(2,.pc 2 0),(3,.pc 3 0),(23,.bool)],[c3,.row 164,c1,c19]⟩)])])
theorem K90:P90.OK prog:=kA (za K89 zf) (by kernel_rfl)
def P91:=spA false [P88,P89] 54 0 f54 ⟨Kj,[c3,.row 164]⟩ [(.ret,Hh)] (hfind [(4,.cut [(.normal,Hh)])])
theorem K91:P91.OK prog:=kA (za K88 (za K89 zf)) (by kernel_rfl)
def P92:=spA false [P88,P91,P90] 93 1 f93 Jl JQ (hfind [(3,.draw (od [1,3,5,7,9,11,13,15,17,19,21,23,25,27,29,31,33,35,37,39,41,43,45,46,48]) []),(19,.cut Gc),(26,.cut Gc)])
theorem K92:P92.OK prog:=kA (za K88 (za K91 (za K90 zf))) (by kernel_rfl)
def P93:=spA false [P89] 176 1 f176 Jl [(.ret,⟨[(0,ii)],[c3,.row 164]⟩)] (hfind [(3,.draw (od [1,3,5,7,9,11,13,15,17,19,20,22]) []),(6,.cut [(.normal,⟨[(0,.pc 0 0),(3,.pc 2 0),(23,.bool)],[c3,.row 164,c19]⟩)])])
theorem K93:P93.OK prog:=kA (za K89 zf) (by kernel_rfl)
def P94:=spA false [P88,P93] 179 1 f179 ⟨[(0,.pc 0 0),(1,.val 116)],[c3,.row 164]⟩ JQ (hfind [(19,.cut [(.normal,⟨[(3,.pc 2 0),(4,.pc 3 0)],[c3,.row 164,c7,c1]⟩)])])
theorem K94:P94.OK prog:=kA (za K88 (za K93 zf)) (by kernel_rfl)
def P95:=spA false [P93,P88,P90,P94] 140 1 f140 Jl JQ (hfind [(3,.draw (od [1,3,5,7,9,11,13,15,17,19,21,23]) []),(6,.draw (od [1,3,5,7,9,11,13,15,17,19,21,23]) [])])
theorem K95:P95.OK prog:=kA (za K93 (za K88 (za K90 (za K94 zf)))) (by kernel_rfl)
def P96:=spA false [P88,P89] 141 1 f141 Jl [(.ret,⟨[(0,.str)],[c3,.row 164]⟩)] (hfind [(8,.loop ⟨[(0,.pc 0 0),(3,.row 2),(4,ii)],[c3,.row 164,.row 9]⟩ [(.ret,⟨[(2,.str)],[c3,.row 164]⟩),(.exit 0,Jl)])])
theorem K96:P96.OK prog:=kA (za K88 (za K89 zf)) (by kernel_rfl)
def P97:=spA false [P95,P96] 98 1 f98 Jl Jf (hfind [])
theorem K97:P97.OK prog:=kA (za K95 (za K96 zf)) (by kernel_rfl)
def P98:=spA false [P91,P88,P95] 177 1 f177 Jl [(.ret,⟨[(0,.row 2)],[c3,.row 164,.row 116]⟩)] (hfind [(8,.cut [(.normal,⟨[(0,.pc 0 0),(18,.bool)],[c3,.row 164]⟩)]),(20,.loop ⟨[(0,.pc 0 0),(4,.pc 2 0),(5,.row 3)],[c3,.row 164,c7,.row 116]⟩ [(.exit 0,⟨[(0,.pc 0 0),(5,.row 2)],[c3,.row 164,.row 116]⟩)])])
theorem K98:P98.OK prog:=kA (za K91 (za K88 (za K95 zf))) (by kernel_rfl)
def P99:=spA false [P88,P93,P90,P95,P87,P98,P91,P94] 189 1 f189 Jl JQ (hfind [(3,.draw (od [1,3,5,7,9,11,13,15,17,19,21,23,24,26]) []),(47,.cut Gc),(60,.draw (od [1,3,5,7,9,11,13,15,17,19,21,23]) []),(106,.draw (od [1,3,5,7,9,11,13,15,17,19,21,23,25,27,29,31,33,35,37]) [(.normal,⟨[(0,.pc 0 0),(2,.pc 2 0),(3,.pc 3 0),(14,.bool),(119,.bool)],Ge⟩)]),(117,.cut [(.normal,⟨[(2,.pc 2 0),(16,.pc 3 0)],Jg⟩)])])
theorem K99:P99.OK prog:=kA (za K88 (za K93 (za K90 (za K95 (za K87 (za K98 (za K91 (za K94 zf)))))))) (by kernel_rfl)
def zna:=spA false [P90,P87,P98,P88,P95,P91,P99] 178 1 f178 Jl Jf (hfind [])
theorem zzz:zna.OK prog:=kA (za K90 (za K87 (za K98 (za K88 (za K95 (za K91 (za K99 zf))))))) (by kernel_rfl)
def zrD:Sig:=⟨HI,[c3,.row 164]⟩
def zrE:List (XK×Sig):=Jf
def zwI:Nat->Uc Hint:=hfind []
def zrF:Sig:=Jl
def zrG:List (XK×Sig):=Jf
def zwJ:Nat->Uc Hint:=hfind [(3,.draw (od [1,3,5,7,9,11,13,15,17,19,21,23]) []),(8,.draw (od [1,3,5,7,9,11,13,15,17,19,21,23]) []),(9,.cut [(.normal,⟨[(0,.pc 0 0),(2,.pc 2 0),(3,ii),(4,.str)],[c3,.row 164,c1]⟩)]),(10,.draw (od [1,3,5,7,9,11,13,15,17,19,21,23]) []),(20,.cut [(.ret,H0),Jz]),(32,.cut [(.normal,⟨[(2,.pc 2 0),(5,.pc 3 0),(6,.pc 4 0)],[c3,.row 164,c1,c51,.cell [ii,.str,ii,ii,.row 6],.row 116,.row 116]⟩)]),(50,.cut [Jz]),(61,.cut [(.normal,⟨[(0,.pc 0 0),(2,.pc 2 0),(4,.str),(5,.pc 3 0),(49,.str),(108,.bool)],Ge⟩)]),(64,.cut [Jz]),(74,.cut [(.normal,⟨[(0,.pc 0 0),(2,.pc 2 0),(5,.pc 3 0),(9,.pc 4 0)],[c3,.row 164,c1,c1,c1]⟩)]),(86,.cut [Jz]),(95,.cut [Jz]),(102,.cut [Jz]),(108,.cut [Jz])]
def Xr:Sig:=Jl
def Xs:List (XK×Sig):=Jf
def zwK:Nat->Uc Hint:=hfind [(3,.draw (od [1,3,5,7,9,11,13,15,17,19,21,23,24,26]) []),(8,.cut [(.normal,⟨[(0,.pc 0 0),(2,.pc 2 0),(3,.pc 3 0),(28,.bool)],Ge⟩)]),(9,.cut Gc),(18,.loop H4 [(.exit 0,H4)])]
def zdo (h:Xr.ty CC->Uc (zh CC Xs)):Spec CC:=⟨95,1,Xr,Xs,h⟩
def zhT (h:Xr.ty CC->Uc (zh CC Xs)) (x:zrD.ty CC):Uc (zh CC zrE):=XR ⟨false⟩ [P97,zdo h] lpO prog f175 1 zrD zrE zwI x
def zty (h:Xr.ty CC->Uc (zh CC Xs)):Spec CC:=⟨175,1,zrD,zrE,zhT h⟩
theorem zyR {h:Xr.ty CC->Uc (zh CC Xs)}(hh:Spec.OK prog (zdo h)):Spec.OK prog (zty h):=yC (za K97 (za hh zf)) ZF ZE zwI (by kernel_rfl) (by kernel_rfl) (by kernel_rfl) fun x=>rfl
def zhU (h:Xr.ty CC->Uc (zh CC Xs)) (x:zrF.ty CC):Uc (zh CC zrG):=XR ⟨false⟩ [zty h,P88,zdo h,P90,P91,P93,P87,P95,P98,zna] lpO prog f139 1 zrF zrG zwJ x
def ztz (h:Xr.ty CC->Uc (zh CC Xs)):Spec CC:=⟨139,1,zrF,zrG,zhU h⟩
theorem zyS {h:Xr.ty CC->Uc (zh CC Xs)}(hh:Spec.OK prog (zdo h)):Spec.OK prog (ztz h):=yC (za (zyR hh) (za K88 (za hh (za K90 (za K91 (za K93 (za K87 (za K95 (za K98 (za zzz zf)))))))))) ZF ZE zwJ (by kernel_rfl) (by kernel_rfl) (by kernel_rfl) fun x=>rfl
def zhV (h:Xr.ty CC->Uc (zh CC Xs)) (x:Xr.ty CC):Uc (zh CC Xs):=XR ⟨false⟩ [P87,P89,P91,P88,ztz h] lpO prog f95 1 Xr Xs zwK x
def zyT (h:Xr.ty CC->Uc (zh CC Xs)):Spec CC:=⟨95,1,Xr,Xs,zhV h⟩
theorem zyU {h:Xr.ty CC->Uc (zh CC Xs)}(hh:Spec.OK prog (zdo h)):Spec.OK prog (zyT h):=yC (za K87 (za K89 (za K91 (za K88 (za (zyS hh) zf))))) ZF ZE zwK (by kernel_rfl) (by kernel_rfl) (by kernel_rfl) fun x=>rfl
def zfv:Nat->Xr.ty CC->Uc (zh CC Xs)
  |0=>fun _=>none
  |k+1=>zhV (zfv k)
theorem ztA:∀ k,Spec.OK prog (zdo (zfv k))
  |0=>⟨f95,by kernel_rfl,by kernel_rfl,by kernel_rfl,fun x r h=>by cases h⟩
  |k+1=>zyU (ztA k)
def zwL (x:Xr.ty CC):Uc (zh CC Xs):=zfv 100000 x
def zwM:Spec CC:=⟨95,1,Xr,Xs,zwL⟩
theorem zzA:Spec.OK prog zwM:=ztA 100000
def zrH:=spA false [P90,P91,P88,P92,P87,P89,zwM] 53 1 f53 KI Jf (hfind [(14,.loop Hl [(.exit 0,Ky)]),(17,.cut [(.normal,⟨[(0,.pc 0 0),(4,.pc 2 0),(5,.pc 3 0),(6,.bool),(31,.bool)],Jg⟩)]),(38,.cut [(.normal,Hl)]),(44,.draw (od [1,3,5,7,9,11,13,15,17,19,21,23,24,26]) []),(50,.cut [(.normal,⟨HJ,[c3,.row 164,c1,c51,c7,.row 116]⟩)]),(56,.cut [(.normal,⟨HJ,[c3,.row 164,c1,c51,c1,.row 116]⟩)])])
theorem zzB:zrH.OK prog:=kA (za K90 (za K91 (za K88 (za K92 (za K87 (za K89 (za zzA zf))))))) (by kernel_rfl)
def zrI:=spA false [P88,P90,P89] 96 1 f96 Jl JQ (hfind [(3,.draw (od [1,3,5,7,9,11,13,15,17,19,21,23,25,27,29,31,33,35,37,39,41,43,45,46,48]) []),(30,.loop ⟨[(0,.pc 0 0),(2,.pc 2 0),(3,.pc 3 0),(6,.row 4),(7,ii)],[c3,.row 164,c1,c1,.row 9]⟩ [(.ret,H0),(.exit 0,J5)])])
theorem zzC:zrI.OK prog:=kA (za K88 (za K90 (za K89 zf))) (by kernel_rfl)
def zrJ:=spA false [P90,P88,P91] 97 1 f97 Jl Jf (hfind [(11,.cut [(.normal,⟨[(2,.pc 2 0),(3,.pc 3 0)],Jg⟩)])])
theorem zzD:zrJ.OK prog:=kA (za K90 (za K88 (za K91 zf))) (by kernel_rfl)
def zrK:=spA false [P90,zrI,P88,zrJ,P91,P97] 55 1 f55 KI Jf (hfind [(16,.loop Hk [(.exit 0,Ky)]),(32,.cut [(.normal,Hk)]),(39,.loop ⟨[(0,.pc 0 0),(4,.pc 2 0),(5,.pc 3 0),(9,.bool)],Jg⟩ [(.exit 2,Ky)])])
theorem zzE:zrK.OK prog:=kA (za K90 (za zzC (za K88 (za zzD (za K91 (za K97 zf)))))) (by kernel_rfl)
def v6:Sig:=Kr
def v7:List (XK×Sig):=Jw
def zwN:Nat->Uc Hint:=hfind [(8,.loop ⟨[(1,.pc 0 0),(3,ii),(4,ii)],[c7]⟩ Gp)]
def znb (h:v6.ty CC->Uc (zh CC v7)):Spec CC:=⟨56,1,v6,v7,h⟩
def zhW (h:v6.ty CC->Uc (zh CC v7)) (x:v6.ty CC):Uc (zh CC v7):=XR ⟨false⟩ [znb h] lpO prog f56 1 v6 v7 zwN x
def zyV (h:v6.ty CC->Uc (zh CC v7)):Spec CC:=⟨56,1,v6,v7,zhW h⟩
theorem zyW {h:v6.ty CC->Uc (zh CC v7)}(hh:Spec.OK prog (znb h)):Spec.OK prog (zyV h):=yC (za hh zf) ZF ZE zwN (by kernel_rfl) (by kernel_rfl) (by kernel_rfl) fun x=>rfl
def zfw:Nat->v6.ty CC->Uc (zh CC v7)
  |0=>fun _=>none
  |k+1=>zhW (zfw k)
theorem ztB:∀ k,Spec.OK prog (znb (zfw k))
  |0=>⟨f56,by kernel_rfl,by kernel_rfl,by kernel_rfl,fun x r h=>by cases h⟩
  |k+1=>zyW (ztB k)
def zwO (x:v6.ty CC):Uc (zh CC v7):=zfw 100000 x
def zwP:Spec CC:=⟨56,1,v6,v7,zwO⟩
theorem zzF:Spec.OK prog zwP:=ztB 100000
def znc:=spA false [P86,P88,zrH,P91,zrK,zwP] 29 3 f29 JT [(.ret,⟨[(0,.val 116),(1,ii),(2,ii)],[]⟩)] (hfind [(18,.loop JD [(.exit 0,JD)]),(21,.draw (od [1,3,5,7,9,11,13,15,17,19,21,23,25,27,29,31,33,35,37]) [(.normal,⟨[(2,.pc 0 0),(8,.pc 1 0),(9,.pc 2 0),(48,.bool)],[c1,c39,c8,.row 164,.row 116]⟩)]),(25,.cut [(.normal,JD)]),(27,.draw (od [1,3,5,7,9,11,13,15,17,19,21,23]) []),(44,.cut [(.normal,JD)]),(54,.draw (od [1,3,5,7,9,11,13,15,17,18,21,23]) [])])
theorem zwQ:znc.OK prog:=kA (za K86 (za K88 (za zzB (za K91 (za zzE (za zzF zf)))))) (by kernel_rfl)
def znd:=spA false [] 123 1 f123 HU [(.ret,⟨[(0,.row 0)],[.row 116]⟩)] (hfind [(8,.loop ⟨Kd,[c7,.row 116]⟩ [(.exit 0,⟨[(5,.row 0)],[.row 116]⟩)]),(19,.cut [(.normal,⟨Kd,[c7,.row 116]⟩)])])
theorem zzG:znd.OK prog:=kA zf (by kernel_rfl)
def zgH:=spA false [] 108 1 f108 ⟨[(0,.sl 100),(1,.str)],[]⟩ Jw (hfind [(6,.loop ⟨[(0,.sl 100),(1,.str),(5,ii)],[]⟩ KE)])
theorem zrL:zgH.OK prog:=kA zf (by kernel_rfl)
def zne:=spA false [] 124 1 f124 ⟨[(0,.sl 116),(1,.str)],[]⟩ Jw (hfind [(6,.loop ⟨[(0,.sl 116),(1,.str),(5,ii)],[]⟩ KE),(16,.cut [(.normal,⟨[(0,.sl 116),(1,.str),(5,ii),(27,.bool)],[]⟩)])])
theorem zzH:zne.OK prog:=kA zf (by kernel_rfl)
def znf:=spA false [] 125 1 f125 Hx [(.ret,⟨[(0,.row 0)],[.row 241]⟩)] (hfind [(7,.cut KV),(12,.cut [(.normal,⟨[(0,.str),(1,ii),(2,ii),(3,ii),(4,ii),(11,.row 0),(29,.bool)],[.row 241]⟩)]),(13,.cut KV),(19,.cut [(.normal,⟨[(11,.row 0)],[.row 241]⟩)])])
theorem zzI:znf.OK prog:=kA zf (by kernel_rfl)
def zrM:=spA false [znd,zgH,zne,znf] 70 3 f70 ⟨[(0,.row 0),(1,.val 116)],[.row 100]⟩ [(.ret,⟨[(0,.val 100),(1,ii),(2,ii)],[.row 100]⟩)] (hfind [(17,.draw (od [1,3,5,6,9,11]) []),(25,.draw (od [1,3,5,6,9,11]) []),(32,.loop KD [Jp,(.exit 0,⟨[(0,.row 0),(4,.pc 1 0),(7,.row 2),(8,.row 3),(9,.pc 4 0),(10,.pc 5 0)],JB⟩)]),(40,.cut [Jp,(.normal,KD)]),(47,.loop ⟨[(0,.row 0),(4,.pc 1 0),(7,.row 2),(8,.row 3),(9,.pc 4 0),(10,.pc 5 0),(12,ii),(13,.pc 6 0),(14,ii)],Kb⟩ [Jp,(.exit 2,⟨[(0,.row 0),(4,.pc 1 0),(7,.row 2),(8,.row 3),(9,.pc 4 0),(10,.pc 5 0),(12,ii),(13,.pc 6 0)],Kb⟩)]),(57,.draw (od [1,3,5,7,9,11,13,15]) []),(60,.draw (od [1,3,5,6,9,11]) []),(69,.cut [Jp,(.normal,⟨[(0,.row 0),(4,.pc 1 0),(7,.row 2),(8,.row 3),(9,.pc 4 0),(10,.pc 5 0),(12,ii),(13,.pc 6 0),(15,ii)],Kb⟩)]),(73,.cut [(.normal,⟨[(0,.row 0),(4,.pc 1 0),(7,.row 2),(8,.row 3),(9,.pc 4 0),(10,.pc 5 0),(12,ii),(13,.pc 6 0),(15,ii),(93,.bool)],Kb⟩)]),(76,.draw (od [1,3,5,6,9,11]) []),(90,.cut [JA,Jp]),(95,.cut [(.normal,⟨[(0,.row 0),(4,.pc 1 0),(7,.row 2),(8,.row 3),(9,.pc 4 0),(10,.pc 5 0),(16,ii),(107,.str),(111,.bool)],JB⟩)]),(98,.cut [Jp,JA]),(104,.cut [(.normal,⟨[(4,.pc 1 0),(7,.row 2),(8,.row 3),(9,.pc 4 0),(10,.pc 5 0)],JB⟩)]),(114,.draw (od [1,3,5,6,9,11]) []),(120,.cut [Jp,JA]),(130,.draw (od [1,3,5,6,9,11]) []),(138,.draw (od [1,3,5,6,9,11]) []),(142,.cut [(.normal,⟨[(4,.pc 1 0),(7,.row 2),(8,.row 3),(9,.pc 4 0),(10,.pc 5 0),(16,ii),(167,.bool)],JB⟩)]),(145,.draw (od [1,3,5,6,9,11]) []),(153,.loop JO [Ke,(.exit 5,⟨[(4,.pc 1 0),(10,.pc 2 0)],[.row 100,c10,.cell [.str,ii,ii,.row 3,.row 4],.row 238,.row 241]⟩)]),(168,.loop Kv [Ke,(.exit 7,⟨[(4,.pc 1 0),(7,.row 2),(8,.row 3),(10,.pc 4 0),(16,ii),(17,ii),(18,.row 5)],JL⟩)]),(176,.cut [(.normal,Kv),Ke]),(189,.cut [(.normal,⟨[(4,.pc 1 0),(7,.row 2),(8,.row 3),(10,.pc 4 0),(16,ii),(17,ii),(18,.row 5),(19,ii),(21,ii),(202,.bool)],JL⟩)]),(192,.draw (od [1,3,5,7,9,11,12,15,17]) []),(198,.draw (od [1,3,5,7,9,11,13,15,17,19,21,23,25,27,29,31,33,35,37,39,41,43,45,47,49,51,53,54,57]) []),(202,.loop ⟨[(4,.pc 1 0),(7,.row 2),(8,.row 3),(10,.pc 4 0),(16,ii),(17,ii),(22,.row 5),(23,ii)],[.row 100,c10,.row 116,.row 116,c31,.row 241,.row 238,.row 241]⟩ [(.exit 9,JO)]),(211,.draw (od [1,3,5,7,9,11,12,14,17,18]) [])])
theorem zzJ:zrM.OK prog:=kA (za zzG (za zrL (za zzH (za zzI zf)))) (by kernel_rfl)
def zrN:=spA false [zrM] 41 3 f41 Kr [(.ret,⟨Kg,[.row 100]⟩)] (hfind [(8,.loop Hs [JJ,(.exit 0,⟨[(5,.row 0)],[.row 100]⟩)]),(16,.cut [(.normal,Hs),JJ])])
theorem zzK:zrN.OK prog:=kA (za zzJ zf) (by kernel_rfl)
def zrO:=spA false [zgH] 126 2 f126 KX [(.ret,⟨[(0,.val 96),(1,.bool)],[]⟩)] (hfind [(10,.cut J9),(14,.cut J9),(18,.cut J9),(22,.cut J9),(28,.cut [(.ret,⟨[(4,.pc 0 0),(5,.bool)],[c13]⟩),(.normal,⟨HN,[c13,c13]⟩)])])
theorem zzL:zrO.OK prog:=kA (za zrL zf) (by kernel_rfl)
def zrP:=spA false [zrO] 71 3 f71 KX [(.ret,⟨[(0,.val 198),(1,ii),(2,ii)],[]⟩)] (hfind [(11,.draw (od [1,3,5,6,9,11]) []),(18,.loop Kx [J2,(.exit 0,⟨[(1,.sl 100),(2,.pc 0 0),(4,.pc 1 0),(7,.pc 2 0),(8,ii)],[c7,c17,c33,.row 96]⟩)]),(26,.cut [J2,(.normal,Kx)]),(33,.loop ⟨[(1,.sl 100),(2,.pc 0 0),(4,.pc 1 0),(7,.pc 2 0),(8,ii),(9,ii),(10,.pc 3 0),(11,ii)],[c7,c17,c42,c7,.row 96]⟩ [J2,(.exit 2,⟨[(1,.sl 100),(2,.pc 0 0),(4,.pc 1 0),(7,.pc 2 0),(8,ii),(9,ii),(10,.pc 3 0)],[c7,c17,c42,c7,.row 96]⟩)]),(43,.draw (od [1,3,5,7,9,11,13,15,17]) []),(46,.draw (od [1,3,5,6,9,11]) []),(57,.draw (od [1,3,5,7,9,11,12,15,17]) []),(64,.loop ⟨[(1,.sl 100),(2,.pc 0 0),(4,.pc 1 0),(7,.pc 2 0),(8,ii),(9,ii),(10,.pc 3 0),(12,.pc 4 0),(14,ii)],HG⟩ [J2,(.exit 4,⟨[(1,.sl 100),(2,.pc 0 0),(4,.pc 1 0),(7,.pc 2 0),(8,ii),(9,ii),(10,.pc 3 0),(12,.pc 4 0)],HG⟩)]),(76,.cut [(.normal,⟨[(1,.sl 100),(2,.pc 0 0),(4,.pc 1 0),(7,.pc 2 0),(8,ii),(9,ii),(10,.pc 3 0),(12,.pc 4 0),(14,ii),(107,.bool)],HG⟩)]),(79,.draw (od [1,3,5,7,9,11,12,15,17]) []),(94,.draw (od [1,3,5,7,9,11,13,14,17,19]) [])])
theorem zzM:zrP.OK prog:=kA (za zzL zf) (by kernel_rfl)
def zrQ:=spA false [zrP] 42 3 f42 KX [(.ret,⟨Kg,[.row 198]⟩)] (hfind [(8,.loop Hb [Kq,(.exit 0,⟨[(7,.row 0)],[.row 198]⟩)]),(16,.cut [(.normal,Hb),Kq])])
theorem zzN:zrQ.OK prog:=kA (za zzM zf) (by kernel_rfl)
def zrR:=spA false [P50,P70,P80,znc,zrN,zrQ] 27 2 f27 JT [(.ret,⟨[(0,.val 71),(1,.bool)],[]⟩)] (hfind [(28,.loop JE [(.exit 0,⟨[(2,.pc 0 0),(9,ii),(10,.row 1),(12,ii),(19,.row 2),(22,.pc 3 0)],[c21,.row 130,.row 198,.cell [.row 4,.sl 65,.row 1,.row 5,.sl 100,.row 2],.row 112,.row 116]⟩)]),(41,.cut [(.normal,JE)]),(44,.draw (od [1,3,5,7,9,11,13,14,16,19,20]) []),(48,.draw (od [1,3,5,7,9,11,13,15,17,19,21,23,25,27,29,31,33,35,37,39,41,43,45,46,49]) [(.normal,⟨[(2,.pc 0 0),(3,.bool)],[.cell [.row 1,.sl 65,.row 2,.row 3,.sl 100,.row 4],.row 112,.row 130,.row 116,.row 198]⟩)])])
theorem zzO:zrR.OK prog:=kA (za K50 (za K70 (za K80 (za zwQ (za zzK (za zzN zf)))))) (by kernel_rfl)
def zj2:=spA false [] 99 0 f99 ⟨[(0,.pc 0 0),(1,.bool),(2,ii)],HH⟩ [Jt,(.ret,⟨[],HH⟩)] (hfind [])
theorem zwR:zj2.OK prog:=kA zf (by kernel_rfl)
def zng:=spA false [zj2] 58 0 f58 ⟨[(0,.pc 0 0),(1,.val 112),(2,.bool),(3,ii)],HH⟩ [Jt,(.ret,⟨[],HH⟩)] (hfind [])
theorem zwS:zng.OK prog:=kA (za zwR zf) (by kernel_rfl)
def znh:=spA false [] 38 1 f38 ⟨Hi,[c20]⟩ Ko (hfind [])
theorem zzP:znh.OK prog:=kA zf (by kernel_rfl)
def zrS:=spA false [znh] 34 1 f34 ⟨[(0,.sl 61),(1,.clo 38 [.pc 0 0])],[c20]⟩ KQ (hfind [(6,.loop ⟨[(0,.sl 61),(1,.clo 38 [.pc 0 0]),(7,ii),(8,ii)],[c20]⟩ JW)])
theorem zzQ:zrS.OK prog:=kA (za zzP zf) (by kernel_rfl)
def zj3:=spA false [zrS] 25 1 f25 ⟨[(0,.val 33),(1,.str)],[]⟩ Jw (hfind [])
theorem zrT:zj3.OK prog:=kA (za zzQ zf) (by kernel_rfl)
def zrU:=spA false [zng,zj3,P54,zj2] 59 1 f59 ⟨JK,HH⟩ [Jt,(.ret,⟨[(0,.agg [.str,ii,.row 2])],[c15,.forow 33,.row 61]⟩)] (hfind [(12,.loop Ki [Jt,(.exit 0,⟨H6,[c15,.forow 33,c6,c23,c46,.row 61]⟩)]),(20,.cut [Jt,(.normal,Ki)]),(26,.draw (od [1,3,5,7,9,10,13,14]) []),(28,.cut [Jt,(.normal,⟨[(0,.pc 0 0),(3,.pc 2 0),(4,.pc 3 0),(5,ii),(6,.pc 4 0),(8,.pc 5 0),(9,.pc 6 0),(27,.sl 112),(28,ii),(29,ii)],[c15,.forow 33,c6,c23,c52,c6,c6,.row 61]⟩)]),(34,.cut [Jt,(.normal,⟨[(0,.pc 0 0),(3,.pc 2 0),(4,.pc 3 0),(5,ii),(6,.pc 4 0),(10,.pc 5 0),(27,.sl 112),(28,ii),(29,ii)],[c15,.forow 33,c6,c23,c54,c9,.row 61]⟩)]),(36,.draw (od [1,3,5,7,9,11,13,15,17,21,18,22,25,26]) []),(42,.draw (od [1,3,5,7,9,11,13,15,17,19,21,23,25,26]) [])])
theorem zzR:zrU.OK prog:=kA (za zwS (za zrT (za K54 (za zwR zf)))) (by kernel_rfl)
def Wo:=spA false [] 99 0 f99 ⟨[(0,.pc 0 0),(1,.bool),(2,ii)],J0⟩ [Jc,Hq] (hfind [])
theorem zbw:Wo.OK prog:=kA zf (by kernel_rfl)
def zni:=spA false [zj3,Wo] 144 1 f144 ⟨Kj,J0⟩ [Jc,H8] (hfind [])
theorem zwT:zni.OK prog:=kA (za zrT (za zbw zf)) (by kernel_rfl)
def znj:=spA false [] 145 1 f145 ⟨[(0,.val 130),(1,.pc 0 0)],[c6]⟩ [(.ret,⟨[(0,.bool)],[c6]⟩)] (hfind [])
theorem zzS:znj.OK prog:=kA zf (by kernel_rfl)
def zrV:=spA false [znj] 35 1 f35 ⟨[(0,.sl 130),(1,.clo 145 [.pc 0 0])],[c6]⟩ [(.ret,⟨[(0,ii)],[c6]⟩)] (hfind [(6,.loop ⟨[(0,.sl 130),(1,.clo 145 [.pc 0 0]),(7,ii),(8,ii)],[c6]⟩ [(.ret,⟨[(4,ii)],[c6]⟩),(.exit 0,⟨[],[c6]⟩)])])
theorem zzT:zrV.OK prog:=kA (za zzS zf) (by kernel_rfl)
def zgI:=spA false [Wo,zni] 106 0 f106 ⟨[(0,.pc 0 0),(1,.val 112),(2,.val 61)],J0⟩ [Jc,Hq] (hfind [(15,.cut [Jc,Hy]),(18,.cut [(.normal,⟨[(0,.pc 0 0),(4,.pc 2 0),(5,.pc 3 0),(6,.pc 4 0),(47,.bool)],HQ⟩)]),(19,.cut [Jc,Hy]),(20,.cut [Jc,Hy]),(21,.cut [Jc,Hy])])
theorem zrW:zgI.OK prog:=kA (za zbw (za zwT zf)) (by kernel_rfl)
def zrX:=spA false [Wo,zgI] 105 0 f105 ⟨[(0,.pc 0 0),(1,.sl 112),(2,.sl 61)],J0⟩ [Jc,Hq] (hfind [(5,.loop ⟨[(0,.pc 0 0),(2,.sl 61),(15,.sl 112),(16,ii),(17,ii)],J0⟩ [Jc,(.exit 0,⟨[],J0⟩)]),(16,.draw (od [1,3,5,7,9,11,12]) [])])
theorem zzU:zrX.OK prog:=kA (za zbw (za zrW zf)) (by kernel_rfl)
def zj4:=spA false [zrV,Wo,zrX] 103 1 f103 ⟨JK,J0⟩ [Jc,H8] (hfind [(7,.draw (od [1,3,5,7,9,11,13,15,17,19,21,22]) [])])
theorem zwU:zj4.OK prog:=kA (za zzT (za zbw (za zzU zf))) (by kernel_rfl)
def znk:=spA false [zni,Wo,zj4] 102 1 f102 ⟨JK,J0⟩ [H8,Jc] (hfind [(10,.cut [Kl,Jc,JF]),(22,.cut [Jc,(.normal,⟨[(4,.pc 2 0),(6,.pc 3 0)],Ga⟩)]),(29,.cut [(.normal,⟨[(0,.pc 0 0),(3,.pc 2 0),(4,.pc 3 0),(5,.pc 4 0),(13,ii),(35,.bool)],HQ⟩)]),(32,.cut [Jc,Kl,JF]),(34,.draw (od [1,3,5,7,9,11,15,17,19,21,23,25,12,26,28,30,32,34]) [Jc,(.normal,⟨[(0,.pc 0 0),(4,.pc 2 0),(5,.pc 3 0),(7,.pc 4 0),(8,.pc 5 0)],[c0,.forow 33,c9,c9,c9,c9]⟩)]),(36,.cut [Jc,(.normal,⟨[(4,.pc 2 0),(5,.pc 3 0)],Ga⟩)]),(43,.cut [(.normal,⟨[(0,.pc 0 0),(3,.pc 2 0),(4,.pc 3 0),(5,.pc 4 0),(13,ii),(63,.bool)],HQ⟩)]),(46,.cut [Jc,Kl,JF]),(56,.cut [(.normal,⟨[(4,.pc 2 0),(9,.pc 3 0)],Ga⟩)]),(64,.cut [Jc,Kl,JF])])
theorem zzV:znk.OK prog:=kA (za zwT (za zbw (za zwU zf))) (by kernel_rfl)
def znl:=spA false [zj3,Wo] 101 0 f101 ⟨[(0,.pc 0 0),(1,.str),(2,.val 61)],[c0,.orow 33]⟩ [JG,(.ret,HC)] (hfind [(11,.draw (od [1,3,5,7,9,11,13,15,17,19,21,23,25,26]) []),(14,.draw (od [1,3,5,7,9,11,13,15,17,19,21,23,24,26,29,31,32]) [])])
theorem zzW:znl.OK prog:=kA (za zrT (za zbw zf)) (by kernel_rfl)
def znm:=spA false [] 104 1 f104 ⟨[(0,.val 33),(1,.pz 112 0)],[]⟩ Jk (hfind [])
theorem zzX:znm.OK prog:=kA zf (by kernel_rfl)
def znn:=spA false [znm] 18 1 f18 ⟨[(0,.row 0),(1,.clo 104 [.pc 1 0])],HM⟩ [(.ret,⟨[(0,ii)],HM⟩)] (hfind [(6,.loop ⟨[(0,.row 0),(1,.clo 104 [.pc 1 0]),(7,ii),(8,ii)],HM⟩ [(.ret,⟨[(4,ii)],HM⟩),(.exit 0,⟨[],HM⟩)])])
theorem zzY:znn.OK prog:=kA (za zzX zf) (by kernel_rfl)
def zno:=spA false [Wo,zgI] 105 0 f105 ⟨[(0,.pc 0 0),(1,.sl 112),(2,.nxp 1 33 61)],J0⟩ [Jc,Hq] (hfind [(5,.loop ⟨[(0,.pc 0 0),(2,.nxp 1 33 61),(15,.sl 112),(16,ii),(17,ii)],J0⟩ [Jc,(.exit 0,⟨[],J0⟩)]),(16,.draw (od [1,3,5,7,9,11,12]) [])])
theorem zzZ:zno.OK prog:=kA (za zbw (za zrW zf)) (by kernel_rfl)
def v8:Sig:=⟨[(0,.pc 0 0),(1,.sl 112)],J0⟩
def Va:List (XK×Sig):=[JG,(.ret,HC)]
def zwV:Nat->Uc Hint:=hfind [(5,.loop JR [JG,(.exit 0,HC)]),(23,.cut Jd),(24,.draw (od [1,3,5,7,9,11,13,15,16,18]) Jd),(27,.cut Jd),(31,.cut Jd),(36,.draw (od [1,3,5,7,9,11,13,15,17,19,21,23,25,27,29,31,33,35,37,39,40]) []),(40,.cut [(.normal,⟨[(0,.pc 0 0),(4,.pc 2 0),(6,.pc 3 0),(11,.sl 112),(12,ii),(13,ii),(23,ii),(79,.bool)],[c0,.orow 33,c9,c6]⟩)]),(43,.cut Jd),(45,.draw (od [1,3,5,7,9,11,12]) []),(47,.draw (od [1,3,5,7,9,11,12]) []),(51,.loop ⟨[(0,.pc 0 0),(4,.pc 2 0),(11,.sl 112),(12,ii),(13,ii),(98,.sl 112),(99,ii),(100,ii)],[c0,.orow 33,c9]⟩ [JG,(.exit 3,JR)]),(66,.cut Jd),(70,.cut [(.normal,JR),JG])]
def znp (h:v8.ty CC->Uc (zh CC Va)):Spec CC:=⟨60,0,v8,Va,h⟩
def zhX (h:v8.ty CC->Uc (zh CC Va)) (x:v8.ty CC):Uc (zh CC Va):=XR ⟨false⟩ [znk,znl,zj4,znn,Wo,zno,zgI,znp h] lpO prog f60 0 v8 Va zwV x
def zyX (h:v8.ty CC->Uc (zh CC Va)):Spec CC:=⟨60,0,v8,Va,zhX h⟩
theorem zyY {h:v8.ty CC->Uc (zh CC Va)}(hh:Spec.OK prog (znp h)):Spec.OK prog (zyX h):=yC (za zzV (za zzW (za zwU (za zzY (za zbw (za zzZ (za zrW (za hh zf)))))))) ZF ZE zwV (by kernel_rfl) (by kernel_rfl) (by kernel_rfl) fun x=>rfl
def zfx:Nat->v8.ty CC->Uc (zh CC Va)
  |0=>fun _=>none
  |k+1=>zhX (zfx k)
theorem ztC:∀ k,Spec.OK prog (znp (zfx k))
  |0=>⟨f60,by kernel_rfl,by kernel_rfl,by kernel_rfl,fun x r h=>by cases h⟩
  |k+1=>zyY (ztC k)
def zwW (x:v8.ty CC):Uc (zh CC Va):=zfx 100000 x
def zwX:Spec CC:=⟨60,0,v8,Va,zwW⟩
theorem zz0:Spec.OK prog zwX:=ztC 100000
def zj5:=spA false [] 151 1 f151 ⟨JU,[]⟩ [(.ret,⟨JU,[]⟩)] (hfind [])
theorem zz1:zj5.OK prog:=kA zf (by kernel_rfl)
def zgJ:=spA false [] 181 1 f181 ⟨JU,[]⟩ [(.ret,Gj)] (hfind [])
theorem zrY:zgJ.OK prog:=kA zf (by kernel_rfl)
def zeG:=spA false [zgJ] 153 1 f153 ⟨[(0,.val 112),(1,ii)],[]⟩ [(.ret,Gj)] (hfind [])
theorem zrZ:zeG.OK prog:=kA (za zrY zf) (by kernel_rfl)
def zj6:=spA false [zgJ] 154 1 f154 ⟨JU,[]⟩ [(.ret,⟨[(0,.row 0)],[.row 52]⟩)] (hfind [(8,.loop ⟨[(3,.row 0),(7,.sl 112),(8,ii),(9,ii)],[.row 52]⟩ [(.exit 0,⟨[(3,.row 0)],[.row 52]⟩)])])
theorem zwY:zj6.OK prog:=kA (za zrY zf) (by kernel_rfl)
def zbx:=spA false [] 65 1 f65 ⟨[(0,.pc 0 0),(1,.val 55)],[c22,.row 55]⟩ [(.ret,⟨[(0,ii)],[c45,.gone,.row 55]⟩)] (hfind [(3,.draw (od [1,3,5,7,9,11,12,14,17,19,20]) [])])
theorem znq:zbx.OK prog:=kA zf (by kernel_rfl)
def znr:=spA false [zeG,zj6,zgJ,zbx] 150 0 f150 ⟨[(0,.pc 0 0),(1,.val 112),(2,.val 112)],[c22,.row 55]⟩ [(.ret,JP)] (hfind [(11,.cut [(.normal,⟨[(0,.pc 0 0),(5,.pc 2 0),(6,.pc 3 0),(13,ii),(17,.bool)],Gf⟩)]),(14,.cut Jy),(15,.draw (od [1,3,5,7,9,13,17,10,14,18,21,22,25,26]) []),(18,.cut Jy),(19,.draw (od [1,3,5,7,8,11,12]) []),(22,.cut Jy),(23,.draw (od [1,3,5,7,8,11,12]) []),(26,.cut Jy),(27,.draw (od [1,3,5,9,6,10,13,14,17,18]) []),(30,.cut Jy),(31,.draw (od [1,3,5,9,6,10,13,14,17,18]) []),(35,.cut [(.normal,⟨[(0,.pc 0 0),(5,.pc 2 0),(6,.pc 3 0),(63,.bool)],Gf⟩)]),(38,.cut [(.normal,⟨[(0,.pc 0 0),(6,.pc 2 0)],[c22,.row 55,c5]⟩)])])
theorem zz2:znr.OK prog:=kA (za zrZ (za zwY (za zrY (za znq zf)))) (by kernel_rfl)
def zr0:Sig:=⟨JK,[c22,.row 55]⟩
def zr1:List (XK×Sig):=[(.ret,JP)]
def zwZ:Nat->Uc Hint:=hfind [(9,.draw (od [1,3,5,7,9,11,15,12,16,19,20,23]) []),(15,.draw (od [1,3,5,7,9,11,13,15,17,19,21,23,24]) []),(17,.cut [(.normal,⟨[(0,.pc 0 0),(3,.pc 2 0),(5,ii),(53,.bool)],[c50,.gone,c6,.row 55]⟩)]),(18,.cut [(.normal,JP)]),(21,.draw (od [1,3,5,7,9,11,13,15,17,19,21,23,24]) [])]
def zr2:Sig:=⟨JK,[c22,.row 55]⟩
def zr3:List (XK×Sig):=[(.ret,JP)]
def zw0:Nat->Uc Hint:=hfind [(10,.cut [(.ret,JP),Jm]),(12,.draw (od [1,3,5,6,8]) []),(17,.cut [(.normal,⟨[(0,.pc 0 0),(3,.pc 2 0),(4,.pc 3 0),(11,ii),(21,.bool)],Gf⟩)]),(26,.cut [Jm]),(27,.draw (od [1,5,9,2,6,10,13,14,17,18]) []),(30,.cut [Jm]),(34,.cut [Jm]),(35,.draw (od [1,3,5,7,8,11,12]) []),(38,.cut [Jm]),(39,.draw (od [1,3,5,7,8,11,12]) []),(42,.cut [Jm]),(43,.draw (od [1,7,13,2,5,8,10,14,17,18,21,22]) []),(46,.cut [Jm]),(50,.cut [(.normal,⟨[(0,.pc 0 0),(4,.pc 2 0)],[c22,.row 55,c5]⟩)]),(51,.draw (od [1,3,5,7,9,13,10,14,17,18,21,22,25,26]) [])]
def Xt:Sig:=⟨JK,[c22,.row 55]⟩
def Xu:List (XK×Sig):=[(.ret,JP)]
def zw1:Nat->Uc Hint:=hfind [(5,.loop ⟨[(0,.pc 0 0),(7,.sl 112),(8,ii),(9,ii)],[c45,.gone,.row 55]⟩ [(.exit 0,JP)])]
def zfy (h:Xt.ty CC->Uc (zh CC Xu)):Spec CC:=⟨64,0,Xt,Xu,h⟩
def zhY (h:Xt.ty CC->Uc (zh CC Xu)) (x:zr0.ty CC):Uc (zh CC zr1):=XR ⟨false⟩ [zeG,zbx,zfy h] lpO prog f152 0 zr0 zr1 zwZ x
def ztD (h:Xt.ty CC->Uc (zh CC Xu)):Spec CC:=⟨152,0,zr0,zr1,zhY h⟩
theorem zyZ {h:Xt.ty CC->Uc (zh CC Xu)}(hh:Spec.OK prog (zfy h)):Spec.OK prog (ztD h):=yC (za zrZ (za znq (za hh zf))) ZF ZE zwZ (by kernel_rfl) (by kernel_rfl) (by kernel_rfl) fun x=>rfl
def zhZ (h:Xt.ty CC->Uc (zh CC Xu)) (x:zr2.ty CC):Uc (zh CC zr3):=XR ⟨false⟩ [zj5,znr,ztD h,zeG,zj6,zbx] lpO prog f110 0 zr2 zr3 zw0 x
def ztE (h:Xt.ty CC->Uc (zh CC Xu)):Spec CC:=⟨110,0,zr2,zr3,zhZ h⟩
theorem zy0 {h:Xt.ty CC->Uc (zh CC Xu)}(hh:Spec.OK prog (zfy h)):Spec.OK prog (ztE h):=yC (za zz1 (za zz2 (za (zyZ hh) (za zrZ (za zwY (za znq zf)))))) ZF ZE zw0 (by kernel_rfl) (by kernel_rfl) (by kernel_rfl) fun x=>rfl
def zh0 (h:Xt.ty CC->Uc (zh CC Xu)) (x:Xt.ty CC):Uc (zh CC Xu):=XR ⟨false⟩ [ztE h] lpO prog f64 0 Xt Xu zw1 x
def zy1 (h:Xt.ty CC->Uc (zh CC Xu)):Spec CC:=⟨64,0,Xt,Xu,zh0 h⟩
theorem zy2 {h:Xt.ty CC->Uc (zh CC Xu)}(hh:Spec.OK prog (zfy h)):Spec.OK prog (zy1 h):=yC (za (zy0 hh) zf) ZF ZE zw1 (by kernel_rfl) (by kernel_rfl) (by kernel_rfl) fun x=>rfl
def zfz:Nat->Xt.ty CC->Uc (zh CC Xu)
  |0=>fun _=>none
  |k+1=>zh0 (zfz k)
theorem ztF:∀ k,Spec.OK prog (zfy (zfz k))
  |0=>⟨f64,by kernel_rfl,by kernel_rfl,by kernel_rfl,fun x r h=>by cases h⟩
  |k+1=>zy2 (ztF k)
def zw2 (x:Xt.ty CC):Uc (zh CC Xu):=zfz 100000 x
def zw3:Spec CC:=⟨64,0,Xt,Xu,zw2⟩
theorem zz3:Spec.OK prog zw3:=ztF 100000
def zns:=spA false [zw3,zbx] 32 1 f32 ⟨JU,[]⟩ [(.ret,⟨[(0,.val 30)],[]⟩)] (hfind [(18,.loop JI [(.exit 0,⟨Hf,[c37,c35,c38,.row 9,.row 55]⟩)]),(34,.cut [(.normal,JI)]),(38,.cut [(.normal,JI)])])
theorem zw4:zns.OK prog:=kA (za zz3 (za znq zf)) (by kernel_rfl)
def zr4:=spA false [Wo] 58 0 f58 ⟨[(0,.pc 0 0),(1,.val 112),(2,.bool),(3,ii)],J0⟩ [Jc,Hq] (hfind [])
theorem zz4:zr4.OK prog:=kA (za zbw zf) (by kernel_rfl)
def zr5:Sig:=⟨[(0,.pc 0 0),(1,.pc 1 0),(2,.pc 2 0),(3,.ifc 170 (.agg [ii,ii]))],HP⟩
def zr6:List (XK×Sig):=[(.ret,⟨[],[c26,c11,c11,.forow 33]⟩)]
def zw5:Nat->Uc Hint:=hfind [(5,.draw (od [1,3,5,7,8,10,12]) [])]
def zr7 (x:zr5.ty CC):Uc (zh CC zr6):=zbo ⟨false⟩ [] lpO prog f57 0 zr5 zr6 zw5 x
def zw6:Spec CC:=⟨57,0,zr5,zr6,zr7⟩
theorem zz5:Spec.OKD prog zw6:=vy zf ZF ZE zw5 (by kernel_rfl) (by kernel_rfl) (by kernel_rfl) fun x=>rfl
def zr8:Sig:=⟨KH,HP⟩
def zr9:List (XK×Sig):=[(.ret,⟨[],HP⟩)]
def zw7:Nat->Uc Hint:=hfind []
def zsa (x:zr8.ty CC):Uc (zh CC zr9):=zbo ⟨false⟩ [] lpO prog f57 0 zr8 zr9 zw7 x
def zw8:Spec CC:=⟨57,0,zr8,zr9,zsa⟩
theorem zz6:Spec.OKD prog zw8:=vy zf ZF ZE zw7 (by kernel_rfl) (by kernel_rfl) (by kernel_rfl) fun x=>rfl
def zsb:Sig:=⟨[(0,.val 112),(1,.sl 130),(2,.sl 65)],[]⟩
def zsc:List (XK×Sig):=[(.ret,⟨Kg,[.orow 33]⟩)]
def zw9:Nat->Uc Hint:=hfind [(3,.loop ⟨[(1,.sl 130),(2,.sl 65),(3,.pc 0 0),(6,.pc 1 0),(7,.pc 2 0),(8,.pc 3 0),(14,.clo 57 [.pc 1 0,.pc 2 0,.pc 3 0])],[c6,c26,c11,c11]⟩ []),(10,.loop J3 [Ji,(.exit 0,⟨[(3,.pc 0 0),(6,.pc 1 0),(7,.pc 2 0),(8,.pc 3 0),(9,.pc 4 0)],[c6,c26,c11,c11,c34,.orow 33]⟩)]),(18,.cut [Ji,(.normal,J3)]),(23,.draw (od [1,3,5,7,11,13,8718,8720,16,8,18,21,23,24,14,16,18,21,23,24]) [Ji,(.normal,J3)]),(29,.loop ⟨[(6,.pc 1 0),(7,.pc 2 0),(8,.pc 3 0),(9,.pc 4 0),(46,.sl 112),(47,ii),(48,ii)],Hp⟩ [Ji,(.exit 2,⟨[(6,.pc 1 0),(7,.pc 2 0),(8,.pc 3 0),(9,.pc 4 0)],Hp⟩)]),(37,.cut [Ji,(.normal,JN)]),(44,.draw (od [1,3,5,7,9,11,13,15,17,19,21,23,25,26,29,31,33,35,36]) [Ji,(.normal,JN)])]
def zxa (x:zsb.ty CC):Uc (zh CC zsc):=zgy ⟨false⟩ [zng,zrU,zwX,zns,zr4] (zw8) (zw6) lpO prog f30 3 zsb zsc zw9 x
def zxb:Spec CC:=⟨30,3,zsb,zsc,zxa⟩
theorem zz7:Spec.OK prog zxb:=zgz (za zwS (za zzR (za zz0 (za zw4 (za zz4 zf))))) zz6 zz5 ZF ZE zw9 (by kernel_rfl) (by kernel_rfl) (by kernel_rfl) fun x=>rfl
def zeH:=spA false [] 61 0 f61 ⟨HI,KG⟩ [(.ret,⟨[],KG⟩)] (hfind [(2,.cut [(.normal,⟨[],KG⟩)])])
theorem zsd:zeH.OK prog:=kA zf (by kernel_rfl)
def znt:=spA false [] 107 1 f107 ⟨Kj,[c47,.row 96]⟩ [(.ret,⟨[(0,ii)],[c47,.row 96]⟩)] (hfind [(6,.loop ⟨[(0,.pc 0 0),(1,.str),(5,ii)],[c47,.row 96]⟩ [(.ret,⟨[(4,ii)],[c47,.row 96]⟩),(.exit 0,⟨[],[c47,.row 96]⟩)])])
theorem zz8:znt.OK prog:=kA zf (by kernel_rfl)
def zse:=spA false [zeH,znt,zgH] 62 1 f62 ⟨[(0,.pc 0 0),(1,.val 116)],KG⟩ [(.ret,⟨[(0,.agg [.str,ii,.row 2])],[c4,.forow 84,.row 96]⟩)] (hfind [(20,.loop ⟨[(0,.pc 0 0),(3,.pc 2 0),(4,.pc 3 0),(5,ii),(6,.pc 4 0),(7,ii)],Gi⟩ [(.exit 0,⟨H6,Gi⟩)]),(38,.cut [(.normal,⟨[(0,.pc 0 0),(3,.pc 2 0),(4,.pc 3 0),(5,ii),(6,.pc 4 0),(7,ii),(8,.pc 5 0),(9,.pc 6 0)],[c4,.forow 84,c7,c23,c52,c7,c7,.row 96]⟩)]),(45,.cut [(.normal,⟨[(0,.pc 0 0),(3,.pc 2 0),(4,.pc 3 0),(5,ii),(6,.pc 4 0),(7,ii),(9,.pc 5 0),(11,.pc 6 0),(60,.bool)],HW⟩)]),(46,.cut [(.normal,⟨[(0,.pc 0 0),(3,.pc 2 0),(4,.pc 3 0),(5,ii),(6,.pc 4 0),(7,ii),(9,.pc 5 0),(11,.pc 6 0)],HW⟩)]),(52,.cut Kk),(56,.draw (od [1,3,5,7,9,11,13,15,17,18,21,22]) []),(59,.cut Kk),(68,.cut [(.normal,⟨[(4,.pc 2 0),(6,.pc 3 0)],[c4,.forow 84,c23,.cell [.str,ii,.row 4],.row 96]⟩)])])
theorem zz9:zse.OK prog:=kA (za zsd (za zz8 (za zrL zf))) (by kernel_rfl)
def zj7:=spA false [] 107 1 f107 H9 Kz (hfind [(6,.loop ⟨[(0,.pr 0 84 0),(1,.str),(5,ii)],[.forow 84]⟩ [(.ret,⟨[(4,ii)],[.forow 84]⟩),Hz])])
theorem zxc:zj7.OK prog:=kA zf (by kernel_rfl)
def znu:=spA false [zj7] 180 2 f180 H9 [(.ret,⟨[(0,.val 96),(1,ii)],[.forow 84]⟩)] (hfind [(13,.draw (od [1,3,5,7,9,11,13,15,17,19,21,23,25,27,29,31,33,34,37]) [])])
theorem zxd:znu.OK prog:=kA (za zxc zf) (by kernel_rfl)
def zj8:=spA false [znu] 149 1 f149 ⟨[(0,.pr 0 84 0),(1,.val 116),(2,.val 96)],[.forow 84]⟩ Kz (hfind [(5,.cut [KF,(.normal,⟨[(0,.pr 0 84 0),(4,.pc 1 0),(5,.pc 2 0)],[.forow 84,c7,c13]⟩)]),(31,.cut [KF,(.normal,⟨[(4,.pc 1 0),(5,.pc 2 0),(7,.pc 3 0)],[.forow 84,c7,c13,c13]⟩)]),(45,.cut [(.normal,⟨[(4,.pc 1 0),(5,.pc 2 0),(7,.pc 3 0),(9,.bool)],[.forow 84,c7,c13,c13]⟩)]),(48,.cut [(.normal,⟨[(60,.bool)],[.forow 84]⟩)])])
theorem zsf:zj8.OK prog:=kA (za zxd zf) (by kernel_rfl)
def zsg:=spA false [zj8] 148 1 f148 ⟨[(0,.pr 0 84 0),(1,.sl 116),(2,.sl 96)],[.forow 84]⟩ Kz (hfind [(14,.loop ⟨[(0,.pr 0 84 0),(1,.sl 116),(2,.sl 96),(7,ii)],[.forow 84]⟩ [KF,Hz]),(24,.draw (od [1,3,5,7,9,11,13,15,17,18,21]) [])])
theorem zAa:zsg.OK prog:=kA (za zsf zf) (by kernel_rfl)
def znv:=spA false [zsg] 147 2 f147 Hv [(.ret,HX)] (hfind [(6,.loop ⟨[(0,.pc 0 0),(1,.pr 1 84 0),(5,.pc 2 0),(6,.pc 3 0),(8,ii)],[c4,.forow 84,c7,c13]⟩ [(.ret,⟨[(6,.pc 2 0),(7,ii)],[c4,.forow 84,c13]⟩),(.exit 0,⟨[(6,.pc 2 0)],[c4,.forow 84,c13]⟩)]),(16,.draw (od [1,3,5,7,9,11,13,15,17,19,21]) []),(19,.draw (od [1,3,5,7,9,11,13,15,17,19,21,22,25]) [])])
theorem zxe:znv.OK prog:=kA (za zAa zf) (by kernel_rfl)
def zsh:=spA false [znu,znv] 146 2 f146 Hv [(.ret,HX)] (hfind [(10,.cut J8),(23,.cut [(.normal,⟨[(6,.pc 2 0),(9,.pc 3 0),(10,ii),(46,.bool)],KT⟩)]),(24,.cut [(.normal,⟨[(6,.pc 2 0),(9,.pc 3 0),(10,ii)],KT⟩)]),(33,.cut [(.normal,⟨[(0,.pc 0 0),(1,.pr 1 84 0),(5,.pc 2 0),(6,.pc 3 0),(8,.pc 4 0),(21,ii),(49,.bool)],[c4,.forow 84,c7,c13,c13]⟩)]),(36,.cut J8),(59,.cut [(.normal,⟨[(6,.pc 2 0),(8,.pc 3 0),(11,.pc 4 0),(87,.bool)],[c4,.forow 84,c13,c13,c13]⟩)]),(71,.cut [(.normal,⟨[(0,.pc 0 0),(1,.pr 1 84 0),(5,.pc 2 0),(6,.pc 3 0),(8,.pc 4 0),(21,ii),(90,.bool)],[c4,.forow 84,c7,c13,c13]⟩)]),(74,.cut J8),(98,.cut [(.normal,⟨[(6,.pc 2 0),(15,.pc 3 0)],KT⟩)]),(111,.cut [(.normal,⟨[(6,.pc 2 0),(17,.pc 3 0),(18,ii),(129,.bool)],KT⟩)]),(112,.cut [(.normal,⟨[(6,.pc 2 0),(17,.pc 3 0),(18,ii)],KT⟩)])])
theorem zAb:zsh.OK prog:=kA (za zxd (za zxe zf)) (by kernel_rfl)
def zsi:=spA false [zj8] 148 1 f148 ⟨[(0,.pr 0 84 0),(1,.sl 116),(2,.nxp 0 84 96)],[.forow 84]⟩ Kz (hfind [(14,.loop ⟨[(0,.pr 0 84 0),(1,.sl 116),(2,.nxp 0 84 96),(7,ii)],[.forow 84]⟩ [KF,Hz]),(24,.draw (od [1,3,5,7,9,11,13,15,17,18,21]) [])])
theorem zAc:zsi.OK prog:=kA (za zsf zf) (by kernel_rfl)
def znw:=spA false [zsh,zj7,znv,zsi,zj8] 109 1 f109 ⟨[(0,.pc 0 0),(1,.pr 1 84 0),(2,.val 116)],[c4,.orow 84]⟩ [(.ret,⟨[(0,ii)],[c4,.orow 84]⟩)] (hfind [(10,.cut Jx),(30,.draw (od [1,3,5,7,9,11,12,14,17,19,20]) []),(37,.draw (od [1,3,5,7,9,11,13,15,17]) []),(48,.cut Jx),(56,.cut Jx),(61,.loop ⟨[(0,.pc 0 0),(1,.pr 1 84 0),(5,.pc 2 0),(13,ii)],Gn⟩ [(.ret,⟨[(6,ii)],[c4,.orow 84]⟩),(.exit 1,Hg)]),(71,.draw (od [1,3,5,7,9,11,13,15,17,19,21]) []),(74,.draw (od [1,3,5,7,9,11,13,15,17,19,21,23,25,27,29,31,33,35,37,39,40,43]) []),(84,.cut [(.normal,⟨[(1,.pr 1 84 0),(5,.pc 2 0),(7,.pc 3 0),(17,ii),(117,.bool)],[c4,.orow 84,c7,c13]⟩)]),(87,.cut Jx),(89,.draw (od [1,3,5,7,9,11,12,15]) []),(99,.draw (od [1,3,5,7,9,11,12,15]) []),(103,.cut Jx)])
theorem zAd:znw.OK prog:=kA (za zAb (za zxc (za zxe (za zAc (za zsf zf))))) (by kernel_rfl)
def Vb:Sig:=⟨[(0,.pc 0 0),(1,.pr 1 84 0),(2,.sl 116)],KG⟩
def Ve:List (XK×Sig):=[(.ret,Hg)]
def zxf:Nat->Uc Hint:=hfind [(3,.loop Kf [(.ret,Hg),(.exit 0,Hg)]),(6,.cut [(.normal,⟨[(0,.pc 0 0),(1,.pr 1 84 0),(2,.sl 116),(6,ii),(20,.bool)],[c4,.orow 84]⟩)]),(25,.cut [(.normal,⟨[(0,.pc 0 0),(1,.pr 1 84 0),(2,.sl 116),(6,ii),(7,.pc 2 0),(45,.bool)],Gn⟩)]),(26,.cut [(.normal,Kf)]),(30,.loop ⟨[(0,.pc 0 0),(1,.pr 1 84 0),(2,.sl 116),(6,ii),(7,.pc 2 0),(9,ii)],Gn⟩ [(.exit 2,Kf)])]
def znx (h:Vb.ty CC->Uc (zh CC Ve)):Spec CC:=⟨63,0,Vb,Ve,h⟩
def zh1 (h:Vb.ty CC->Uc (zh CC Ve)) (x:Vb.ty CC):Uc (zh CC Ve):=XR ⟨false⟩ [znw,zeH,znx h] lpO prog f63 0 Vb Ve zxf x
def zy3 (h:Vb.ty CC->Uc (zh CC Ve)):Spec CC:=⟨63,0,Vb,Ve,zh1 h⟩
theorem zy4 {h:Vb.ty CC->Uc (zh CC Ve)}(hh:Spec.OK prog (znx h)):Spec.OK prog (zy3 h):=yC (za zAd (za zsd (za hh zf))) ZF ZE zxf (by kernel_rfl) (by kernel_rfl) (by kernel_rfl) fun x=>rfl
def zfA:Nat->Vb.ty CC->Uc (zh CC Ve)
  |0=>fun _=>none
  |k+1=>zh1 (zfA k)
theorem ztG:∀ k,Spec.OK prog (znx (zfA k))
  |0=>⟨f63,by kernel_rfl,by kernel_rfl,by kernel_rfl,fun x r h=>by cases h⟩
  |k+1=>zy4 (ztG k)
def zxg (x:Vb.ty CC):Uc (zh CC Ve):=zfA 100000 x
def zxh:Spec CC:=⟨63,0,Vb,Ve,zxg⟩
theorem zAe:Spec.OK prog zxh:=ztG 100000
def zcN:=spA false [] 112 1 f112 Kr [(.ret,⟨[(0,.val 91)],[]⟩)] (hfind [])
theorem zny:zcN.OK prog:=kA zf (by kernel_rfl)
def znz:=spA false [zcN] 156 1 f156 ⟨[(0,.sl 116)],[]⟩ [(.ret,⟨[(0,.row 0)],[.row 91]⟩)] (hfind [(8,.loop ⟨[(0,.sl 116),(3,.row 0),(4,ii)],[.row 91]⟩ [(.exit 0,⟨[(3,.row 0)],[.row 91]⟩)])])
theorem zxi:znz.OK prog:=kA (za zny zf) (by kernel_rfl)
def zsj:=spA false [zcN,znz] 155 1 f155 Kr [(.ret,KK)] (hfind [(13,.cut [(.normal,⟨[(2,.pc 0 0),(3,.pc 1 0),(4,.pc 2 0),(20,ii),(21,.bool)],[c5,c7,c5]⟩)]),(16,.cut Js),(20,.cut Js),(28,.cut Js),(36,.cut Js),(42,.cut Js),(48,.cut Js),(56,.cut Js)])
theorem zAf:zsj.OK prog:=kA (za zny (za zxi zf)) (by kernel_rfl)
def znA:=spA false [zsj,zcN,znz] 111 1 f111 Kr [(.ret,KK)] (hfind [(16,.cut Ju),(24,.cut Ju),(28,.cut Ju),(34,.cut Ju),(40,.cut Ju),(48,.cut Ju),(54,.cut KC),(61,.cut KC),(68,.cut KC)])
theorem zAg:znA.OK prog:=kA (za zAf (za zny (za zxi zf))) (by kernel_rfl)
def Vf:Sig:=HU
def Vg:List (XK×Sig):=[(.ret,⟨[(0,.row 0)],[.row 94]⟩)]
def zxj:Nat->Uc Hint:=hfind [(8,.loop ⟨Kd,[c7,.row 94]⟩ [(.exit 0,⟨[(5,.row 0)],[.row 94]⟩)]),(16,.cut [(.normal,⟨Kd,[c7,.row 94]⟩)]),(23,.cut [(.normal,⟨[(1,ii),(2,.pc 0 0),(5,.row 1),(6,ii),(7,.pc 2 0),(8,ii),(40,.bool)],[c7,.row 94,c7]⟩)]),(45,.loop ⟨[(1,ii),(2,.pc 0 0),(5,.row 1),(6,ii),(7,.pc 2 0),(8,ii),(12,.row 3),(13,ii),(14,ii)],[c7,.row 94,c7,.row 94]⟩ [(.exit 2,⟨[(1,ii),(2,.pc 0 0),(5,.row 1),(6,ii),(7,.pc 2 0),(8,ii),(13,ii)],[c7,.row 94,c7]⟩)]),(71,.loop ⟨[(1,ii),(2,.pc 0 0),(5,.row 1),(6,ii),(15,.row 2),(16,ii)],[c7,.row 94,.row 94]⟩ [(.exit 4,⟨Kd,[c7,.row 94]⟩)])]
def znB (h:Vf.ty CC->Uc (zh CC Vg)):Spec CC:=⟨66,1,Vf,Vg,h⟩
def zh2 (h:Vf.ty CC->Uc (zh CC Vg)) (x:Vf.ty CC):Uc (zh CC Vg):=XR ⟨false⟩ [znA,zcN,znB h] lpO prog f66 1 Vf Vg zxj x
def zy5 (h:Vf.ty CC->Uc (zh CC Vg)):Spec CC:=⟨66,1,Vf,Vg,zh2 h⟩
theorem zy6 {h:Vf.ty CC->Uc (zh CC Vg)}(hh:Spec.OK prog (znB h)):Spec.OK prog (zy5 h):=yC (za zAg (za zny (za hh zf))) ZF ZE zxj (by kernel_rfl) (by kernel_rfl) (by kernel_rfl) fun x=>rfl
def zfB:Nat->Vf.ty CC->Uc (zh CC Vg)
  |0=>fun _=>none
  |k+1=>zh2 (zfB k)
theorem ztH:∀ k,Spec.OK prog (znB (zfB k))
  |0=>⟨f66,by kernel_rfl,by kernel_rfl,by kernel_rfl,fun x r h=>by cases h⟩
  |k+1=>zy6 (ztH k)
def zxk (x:Vf.ty CC):Uc (zh CC Vg):=zfB 100000 x
def zxl:Spec CC:=⟨66,1,Vf,Vg,zxk⟩
theorem zAh:Spec.OK prog zxl:=ztH 100000
def znC:=spA false [zxl] 33 1 f33 Kr [(.ret,⟨[(0,.agg [.str,.row 0,.row 1])],[.row 9,.row 94]⟩)] (hfind [(10,.loop ⟨[(1,.pc 0 0),(2,.pc 1 0),(3,.pc 2 0),(4,ii),(5,ii)],[c7,c37,c35,.row 9]⟩ [(.exit 0,⟨[(1,.pc 0 0),(2,.pc 1 0),(3,.pc 2 0),(4,ii)],[c7,c37,c35,.row 9]⟩)]),(19,.draw (od [1,3,5,7,9,11,13,15,16,18,21,22]) []),(24,.draw (od [1,3,5,7,9,11,13,15,17,18,20,23,24]) [])])
theorem zxm:znC.OK prog:=kA (za zAh zf) (by kernel_rfl)
def zsk:=spA false [zeH,zse,zxh,znC] 31 1 f31 ⟨[(0,.val 116),(1,.sl 198),(2,.sl 100)],[]⟩ [(.ret,⟨[(0,.pc 0 0)],[c4,.orow 84]⟩)] (hfind [(8,.loop ⟨[(3,.pc 0 0),(7,.pc 1 0),(8,ii)],He⟩ [(.exit 0,⟨[(3,.pc 0 0),(7,.pc 1 0)],He⟩)]),(11,.cut [(.normal,⟨[(3,.pc 0 0),(7,.pc 1 0),(8,ii),(29,.bool)],He⟩)]),(27,.draw (od [1,3,5,7,9,11,12,14,17,19,20]) []),(33,.loop HB [(.exit 2,HO)]),(36,.cut [(.normal,⟨[(3,.pc 0 0),(7,.pc 1 0),(10,ii),(75,.bool)],He⟩)]),(47,.draw (od [1,3,5,7,9,11,13,15,17,19,21,23,25,26]) []),(51,.cut [(.normal,⟨[(3,.pc 0 0),(7,.pc 1 0),(10,ii),(11,.pc 2 0),(118,.bool)],[c7,.cell [.sl 198,.sl 100,.row 3,ii,ii],c7,.orow 84]⟩)]),(52,.cut [(.normal,HB)]),(59,.cut [(.normal,HO)])])
theorem zAi:zsk.OK prog:=kA (za zsd (za zz9 (za zAe (za zxm zf)))) (by kernel_rfl)
def zsl:=spA false [zrR,P50,znc,zxb,zsk,zns,znC] 16 3 f16 Ks [(.ret,⟨[(0,.val 71),(1,.val 76),(2,.bool)],[]⟩)] (hfind [(8,.cut [(.normal,⟨[(1,.str),(4,.pc 0 0),(5,.pc 1 0),(7,.pc 2 0),(9,.pc 3 0),(38,.bool)],[c21,c44,c53,c6]⟩)]),(26,.loop J1 [(.exit 0,⟨[(4,.pc 0 0),(5,.pc 1 0),(7,.pc 2 0),(15,.row 3),(17,ii),(18,.pc 4 0),(19,.pc 5 0)],[c21,c44,c53,.orow 33,.cell [.sl 198,.sl 100,.row 6,ii,ii],.cell [.row 3,.row 7,.row 6,.row 8],.orow 84,.row 30,.row 81]⟩)]),(39,.cut [(.normal,J1)]),(41,.draw (od [1,3,5,6,8,10,13,14]) []),(42,.draw (od [1,3,5,7,9,11,13,14,16,18,21,22]) []),(46,.draw (od [1,3,5,7,9,11,13,15,17,19,21,23,25,27,29,31,33,35,37,39,41,43,45,47,49,51,53,55,57,58,60,63]) [(.normal,⟨[(4,.pc 0 0),(5,.pc 1 0),(6,.bool)],[c53,.cell [.row 2,.row 3,.row 4,.row 5],.orow 33,.row 30,.orow 84,.row 81]⟩)])])
theorem zAj:zsl.OK prog:=kA (za zzO (za K50 (za zwQ (za zz7 (za zAi (za zw4 (za zxm zf))))))) (by kernel_rfl)
def znD:=spA false [zsl] 7 3 f7 Ks [(.ret,⟨[(0,.row 0),(1,.row 1),(2,.bool)],[.row 39,.row 45]⟩)] (hfind [(20,.loop ⟨[(7,.pc 0 0),(8,.pc 1 0),(10,.row 2),(11,.row 3),(24,ii),(25,ii)],[c53,.cell [.val 76],.row 39,.row 45]⟩ [(.exit 0,⟨[(10,.row 0),(11,.row 1)],[.row 39,.row 45]⟩)]),(32,.draw (od [1,3,5,7,9,11,13,15,17,19,21,23,25,27,29,31,33,35,36,38,40]) []),(33,.draw (od [1,3,5,7,9,11,13,15,17,19,21,23,25,27,29,31,33,35,36,38,40,42]) [])])
theorem zxn:znD.OK prog:=kA (za zAj zf) (by kernel_rfl)
def znE:=spA false [] 19 1 f19 ⟨[(0,.val 33),(1,.pc 0 0)],[c48]⟩ [(.ret,⟨[(0,.bool)],[c48]⟩)] (hfind [])
theorem zAk:znE.OK prog:=kA zf (by kernel_rfl)
def zsm:=spA false [znE] 18 1 f18 ⟨[(0,.sl 33),(1,.clo 19 [.pc 0 0])],[c48]⟩ [(.ret,⟨[(0,ii)],[c48]⟩)] (hfind [(6,.loop ⟨[(0,.sl 33),(1,.clo 19 [.pc 0 0]),(7,ii),(8,ii)],[c48]⟩ [(.ret,⟨[(4,ii)],[c48]⟩),(.exit 0,⟨[],[c48]⟩)])])
theorem zAl:zsm.OK prog:=kA (za zAk zf) (by kernel_rfl)
def zj9:=spA false [] 11 1 f11 ⟨[(0,ii)],[]⟩ Jk (hfind [(3,.cut JZ)])
theorem zxo:zj9.OK prog:=kA zf (by kernel_rfl)
def zsn:=spA false [zj9] 17 1 f17 ⟨Hi,[c29]⟩ [(.ret,Gh)] (hfind [(3,.cut [(.normal,⟨[(3,.bool)],[c29]⟩)])])
theorem zAm:zsn.OK prog:=kA (za zxo zf) (by kernel_rfl)
def zso:=spA false [zsn] 34 1 f34 H3 [(.ret,⟨[(0,ii)],[c29]⟩)] (hfind [(6,.loop ⟨[(0,.sl 61),(1,.clo 17 [.pc 0 0]),(7,ii),(8,ii)],[c29]⟩ [(.ret,⟨[(4,ii)],[c29]⟩),(.exit 0,⟨[],[c29]⟩)])])
theorem zAn:zso.OK prog:=kA (za zAm zf) (by kernel_rfl)
def zsp:=spA false [zso] 20 1 f20 H3 [(.ret,Gh)] (hfind [])
theorem zAo:zsp.OK prog:=kA (za zAn zf) (by kernel_rfl)
def znF:=spA false [zsm,zsp] 9 2 f9 ⟨[(0,.val 39)],[]⟩ [(.ret,⟨[(0,ii),(1,ii)],[]⟩)] (hfind [(8,.loop KL [(.ret,Gg),(.exit 0,⟨[],[]⟩)]),(16,.cut [(.normal,KL),(.ret,Gg)]),(28,.draw (od [1,3,5,7,9,11,13,15,17,19,21,23,25,27,29,31,33,34,37]) [(.normal,⟨[(1,.pc 0 0),(4,.clo 17 [.pc 0 0]),(6,.pc 1 0),(11,.sl 55),(12,ii),(13,ii),(42,.bool)],[c29,c48]⟩)])])
theorem zxp:znF.OK prog:=kA (za zAl (za zAo zf)) (by kernel_rfl)
def znG:=spA false [] 13 1 f13 ⟨[(0,ii)],[]⟩ Jk (hfind [])
theorem zAp:znG.OK prog:=kA zf (by kernel_rfl)
def zsq:=spA false [znD,znF,zj9,znG] 8 1 f8 ⟨[],[]⟩ Jk (hfind [(15,.cut [(.normal,⟨[(0,.bool)],[]⟩)])])
theorem zAq:zsq.OK prog:=kA (za zxn (za zxp (za zxo (za zAp zf)))) (by kernel_rfl)
def zgK:=spA false [znD,zsq,znF] 5 1 f5 Ks Jk (hfind [(6,.cut [(.normal,⟨[(5,.row 0),(29,.bool)],[.row 39]⟩)]),(16,.loop ⟨[(31,.row 0),(32,ii),(33,ii)],[.row 39]⟩ [(.ret,⟨[(4,.bool)],[]⟩),(.exit 0,⟨[],[]⟩)]),(37,.loop Km [(.exit 2,⟨[(10,ii),(11,ii),(12,.pc 0 0),(31,.row 1),(32,ii),(33,ii)],[c28,.row 39,.row 55]⟩)]),(50,.cut [(.normal,Km)]),(57,.cut [(.normal,⟨[(31,.row 0),(32,ii),(33,ii),(88,.bool)],[.row 39]⟩)])])
theorem zAr:zgK.OK prog:=kA (za zxn (za zAq (za zxp zf))) (by kernel_rfl)
end
end Go.Px
