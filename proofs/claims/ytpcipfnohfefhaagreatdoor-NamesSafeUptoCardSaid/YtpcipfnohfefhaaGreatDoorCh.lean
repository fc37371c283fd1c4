/- Part Ch: PxTm. -/
import Derived.Test.YtpcipfnohfefhaaGreatDoorSf
set_option linter.unusedVariables false
set_option linter.unusedSimpArgs false
namespace Go.Px
open Go.Proofs Go.Proofs.Tryz
set_option maxRecDepth 100000
noncomputable section
theorem ZK:Tryz.prog.follows .mixedOrders=true:=by kernel_rfl
def GLk:World->FS->Prop:=fun _ Z=>(∃ t p,Z 0 0=some (.iface t p))/\∃ t p,Z 1 0=some (.iface t p)
theorem glm {Z τ:FS}{w w':World}{h:zc}(l:Z.le τ) (_:Ext w h w') (g:GLk w Z):GLk w' τ:=by
  obtain ⟨⟨t,p,a⟩,t',p',b⟩:=g
  exact ⟨⟨t,p,l _ _ _ a⟩,t',p',l _ _ _ b⟩
structure qn where
  k_:Int
  T_:G1
  N_:Int
  a_:Int
structure q8 where
  Q_:(Sl qn)
  D_:Int
structure q7 where
  k_:Int
  T_:G1
  N_:Int
  a_:Int
  K_:(Sl q7)
structure qp where
  n_:G1
  U_:Int
structure qr where
  X_:Int
  Y_:Int
  C_:Int
structure qa where
  n_:G1
  s_:Int
  o_:Int
  J_:(Sl qp)
  f_:(Sl qr)
structure qf where
  n_:G1
  M_:Int
  t_:Int
structure qd where
  n_:G1
  P_:(Sl qf)
  R_:qf
structure q9 where
  k_:Int
  T_:G1
  N_:Int
  a_:Int
structure q6 where
  k_:Int
  T_:G1
  N_:Int
  a_:Int
  K_:(Sl q6)
structure qk where
  n_:G1
  U_:Int
structure qq where
  X_:Int
  Y_:Int
  C_:Int
structure qc where
  n_:G1
  s_:Int
  o_:Int
  J_:(Sl qk)
  f_:(Sl qq)
structure qh where
  n_:G1
  M_:Int
  t_:Int
structure qg where
  n_:G1
  P_:(Sl qh)
  R_:qh
structure qw where
  G_:(Sl q7)
  Z_:(Sl qa)
  S_:(Sl qd)
  r_:(Sl q6)
  I_:(Sl qc)
  E_:(Sl qg)
structure qb where
  n_:G1
  P_:Int
  V_:(Sl qf)
structure qt where
  n_:G1
  N_:Int
structure qi where
  O_:Int
  a_:Int
  X_:G1
  Y_:G1
  A_:qt
  B_:qt
  W_:(Sl qt)
  w_:Int
  H_:Bool
structure q1h where
  n_:G1
  P_:(Sl G1)
  L_:(Sl qi)
structure qz where
  G_:(Sl q7)
  Z_:(Sl qa)
  S_:(Sl qd)
  r_:(Sl q6)
  I_:(Sl qc)
  E_:(Sl qg)
structure qe where
  n_:G1
  P_:Int
  V_:(Sl qh)
structure ql where
  n_:G1
  N_:Int
structure qm where
  O_:Int
  a_:Int
  X_:G1
  Y_:G1
  A_:ql
  B_:ql
  W_:(Sl ql)
  w_:Int
  H_:Bool
structure q1f where
  n_:G1
  P_:(Sl G1)
  L_:(Sl qm)
structure q1q where
  G_:(Sl qb)
  h_:(Sl q1h)
  r_:(Sl qe)
  g_:(Sl q1f)
structure qj where
  c_:q1h
  F_:qb
  z_:(Sl qd)
  q_:(Sl qb)
  j_:(Sl qa)
structure q12 where
  c_:q1f
  F_:qe
  z_:(Sl qg)
  q_:(Sl qe)
  j_:(Sl qc)
abbrev DT:List (Nat×Type):=[(104,qn),(101,q8),(35,q7),(214,qp),(275,qr),(80,qa),(9,G1),(47,qf),(49,qd),(163,q9),(86,q6),(228,qk),(231,qq),(171,qc),(3,Int),(175,qh),(177,qg),(30,qw),(53,qb),(68,qt),(71,qi),(61,q1h),(123,qz),(137,qe),(250,ql),(253,qm),(134,q1f),(128,q1q),(63,qj),(139,q12),(131,q12),(43,(G1×Int)),(72,(Int×Int))]
abbrev DD:Nat->Type:=zsx DT
def zmJ:(T:Nat)->G4 (PLift (DD T=(G1×Int))):=fun T=>if h:T=43 then some ⟨h ▸ rfl⟩ else none
def zmK:(T:Nat)->G4 (PLift (DD T=(Int×Int))):=fun T=>if h:T=72 then some ⟨h ▸ rfl⟩ else none
def ET:List ((T:Nat)×TyE DD T):=[⟨104,true,[.int .i64,.str,.int .i64,.int .i64],fun (x:qn)=>(x.k_,x.T_,x.N_,x.a_,()),fun (a0,a1,a2,a3,_)=>some (show qn from ⟨a0,a1,a2,a3⟩),fun x y h=>by cases h;rfl⟩,
  ⟨101,true,[.sl 104,.int .i64],fun (x:q8)=>(x.Q_,x.D_,()),fun (a0,a1,_)=>some (show q8 from ⟨a0,a1⟩),fun x y h=>by cases h;rfl⟩,
  ⟨35,true,[.int .i64,.str,.int .i64,.int .i64,.sl 35],fun (x:q7)=>(x.k_,x.T_,x.N_,x.a_,x.K_,()),fun (a0,a1,a2,a3,a4,_)=>some (show q7 from ⟨a0,a1,a2,a3,a4⟩),fun x y h=>by cases h;rfl⟩,
  ⟨214,true,[.str,.int .i64],fun (x:qp)=>(x.n_,x.U_,()),fun (a0,a1,_)=>some (show qp from ⟨a0,a1⟩),fun x y h=>by cases h;rfl⟩,
  ⟨275,true,[.int .i64,.int .i64,.int .i64],fun (x:qr)=>(x.X_,x.Y_,x.C_,()),fun (a0,a1,a2,_)=>some (show qr from ⟨a0,a1,a2⟩),fun x y h=>by cases h;rfl⟩,
  ⟨80,true,[.str,.int .i64,.int .i64,.sl 214,.sl 275],fun (x:qa)=>(x.n_,x.s_,x.o_,x.J_,x.f_,()),fun (a0,a1,a2,a3,a4,_)=>some (show qa from ⟨a0,a1,a2,a3,a4⟩),fun x y h=>by cases h;rfl⟩,
  ⟨9,false,[.str],fun (x:G1)=>(x,()),fun (a0,_)=>some (show G1 from a0),fun x y h=>by cases h;rfl⟩,
  ⟨47,true,[.str,.int .i64,.int .i64],fun (x:qf)=>(x.n_,x.M_,x.t_,()),fun (a0,a1,a2,_)=>some (show qf from ⟨a0,a1,a2⟩),fun x y h=>by cases h;rfl⟩,
  ⟨49,true,[.str,.sl 47,.str,.int .i64,.int .i64],fun (x:qd)=>(x.n_,x.P_,x.R_.n_,x.R_.M_,x.R_.t_,()),fun (a0,a1,a2,a3,a4,_)=>some (show qd from ⟨a0,a1,⟨a2,a3,a4⟩⟩),fun x y h=>by cases h;rfl⟩,
  ⟨163,true,[.int .i64,.str,.int .i64,.int .i64],fun (x:q9)=>(x.k_,x.T_,x.N_,x.a_,()),fun (a0,a1,a2,a3,_)=>some (show q9 from ⟨a0,a1,a2,a3⟩),fun x y h=>by cases h;rfl⟩,
  ⟨86,true,[.int .i64,.str,.int .i64,.int .i64,.sl 86],fun (x:q6)=>(x.k_,x.T_,x.N_,x.a_,x.K_,()),fun (a0,a1,a2,a3,a4,_)=>some (show q6 from ⟨a0,a1,a2,a3,a4⟩),fun x y h=>by cases h;rfl⟩,
  ⟨228,true,[.str,.int .i64],fun (x:qk)=>(x.n_,x.U_,()),fun (a0,a1,_)=>some (show qk from ⟨a0,a1⟩),fun x y h=>by cases h;rfl⟩,
  ⟨231,true,[.int .i64,.int .i64,.int .i64],fun (x:qq)=>(x.X_,x.Y_,x.C_,()),fun (a0,a1,a2,_)=>some (show qq from ⟨a0,a1,a2⟩),fun x y h=>by cases h;rfl⟩,
  ⟨171,true,[.str,.int .i64,.int .i64,.sl 228,.sl 231],fun (x:qc)=>(x.n_,x.s_,x.o_,x.J_,x.f_,()),fun (a0,a1,a2,a3,a4,_)=>some (show qc from ⟨a0,a1,a2,a3,a4⟩),fun x y h=>by cases h;rfl⟩,
  ⟨3,false,[.int .i64],fun (x:Int)=>(x,()),fun (a0,_)=>some (show Int from a0),fun x y h=>by cases h;rfl⟩,
  ⟨175,true,[.str,.int .i64,.int .i64],fun (x:qh)=>(x.n_,x.M_,x.t_,()),fun (a0,a1,a2,_)=>some (show qh from ⟨a0,a1,a2⟩),fun x y h=>by cases h;rfl⟩,
  ⟨177,true,[.str,.sl 175,.str,.int .i64,.int .i64],fun (x:qg)=>(x.n_,x.P_,x.R_.n_,x.R_.M_,x.R_.t_,()),fun (a0,a1,a2,a3,a4,_)=>some (show qg from ⟨a0,a1,⟨a2,a3,a4⟩⟩),fun x y h=>by cases h;rfl⟩,
  ⟨30,true,[.sl 35,.sl 80,.sl 49,.sl 86,.sl 171,.sl 177],fun (x:qw)=>(x.G_,x.Z_,x.S_,x.r_,x.I_,x.E_,()),fun (a0,a1,a2,a3,a4,a5,_)=>some (show qw from ⟨a0,a1,a2,a3,a4,a5⟩),fun x y h=>by cases h;rfl⟩,
  ⟨53,true,[.str,.int .i64,.sl 47],fun (x:qb)=>(x.n_,x.P_,x.V_,()),fun (a0,a1,a2,_)=>some (show qb from ⟨a0,a1,a2⟩),fun x y h=>by cases h;rfl⟩,
  ⟨68,true,[.str,.int .i64],fun (x:qt)=>(x.n_,x.N_,()),fun (a0,a1,_)=>some (show qt from ⟨a0,a1⟩),fun x y h=>by cases h;rfl⟩,
  ⟨71,true,[.int .i64,.int .i64,.str,.str,.str,.int .i64,.str,.int .i64,.sl 68,.int .i64,.bool],fun (x:qi)=>(x.O_,x.a_,x.X_,x.Y_,x.A_.n_,x.A_.N_,x.B_.n_,x.B_.N_,x.W_,x.w_,x.H_,()),fun (a0,a1,a2,a3,a4,a5,a6,a7,a8,a9,a10,_)=>some (show qi from ⟨a0,a1,a2,a3,⟨a4,a5⟩,⟨a6,a7⟩,a8,a9,a10⟩),fun x y h=>by cases h;rfl⟩,
  ⟨61,true,[.str,.sl 9,.sl 71],fun (x:q1h)=>(x.n_,x.P_,x.L_,()),fun (a0,a1,a2,_)=>some (show q1h from ⟨a0,a1,a2⟩),fun x y h=>by cases h;rfl⟩,
  ⟨123,true,[.sl 35,.sl 80,.sl 49,.sl 86,.sl 171,.sl 177],fun (x:qz)=>(x.G_,x.Z_,x.S_,x.r_,x.I_,x.E_,()),fun (a0,a1,a2,a3,a4,a5,_)=>some (show qz from ⟨a0,a1,a2,a3,a4,a5⟩),fun x y h=>by cases h;rfl⟩,
  ⟨137,true,[.str,.int .i64,.sl 175],fun (x:qe)=>(x.n_,x.P_,x.V_,()),fun (a0,a1,a2,_)=>some (show qe from ⟨a0,a1,a2⟩),fun x y h=>by cases h;rfl⟩,
  ⟨250,true,[.str,.int .i64],fun (x:ql)=>(x.n_,x.N_,()),fun (a0,a1,_)=>some (show ql from ⟨a0,a1⟩),fun x y h=>by cases h;rfl⟩,
  ⟨253,true,[.int .i64,.int .i64,.str,.str,.str,.int .i64,.str,.int .i64,.sl 250,.int .i64,.bool],fun (x:qm)=>(x.O_,x.a_,x.X_,x.Y_,x.A_.n_,x.A_.N_,x.B_.n_,x.B_.N_,x.W_,x.w_,x.H_,()),fun (a0,a1,a2,a3,a4,a5,a6,a7,a8,a9,a10,_)=>some (show qm from ⟨a0,a1,a2,a3,⟨a4,a5⟩,⟨a6,a7⟩,a8,a9,a10⟩),fun x y h=>by cases h;rfl⟩,
  ⟨134,true,[.str,.sl 9,.sl 253],fun (x:q1f)=>(x.n_,x.P_,x.L_,()),fun (a0,a1,a2,_)=>some (show q1f from ⟨a0,a1,a2⟩),fun x y h=>by cases h;rfl⟩,
  ⟨128,true,[.sl 53,.sl 61,.sl 137,.sl 134],fun (x:q1q)=>(x.G_,x.h_,x.r_,x.g_,()),fun (a0,a1,a2,a3,_)=>some (show q1q from ⟨a0,a1,a2,a3⟩),fun x y h=>by cases h;rfl⟩,
  ⟨63,true,[.str,.sl 9,.sl 71,.str,.int .i64,.sl 47,.sl 49,.sl 53,.sl 80],fun (x:qj)=>(x.c_.n_,x.c_.P_,x.c_.L_,x.F_.n_,x.F_.P_,x.F_.V_,x.z_,x.q_,x.j_,()),fun (a0,a1,a2,a3,a4,a5,a6,a7,a8,_)=>some (show qj from ⟨⟨a0,a1,a2⟩,⟨a3,a4,a5⟩,a6,a7,a8⟩),fun x y h=>by cases h;rfl⟩,
  ⟨139,true,[.str,.sl 9,.sl 253,.str,.int .i64,.sl 175,.sl 177,.sl 137,.sl 171],fun (x:q12)=>(x.c_.n_,x.c_.P_,x.c_.L_,x.F_.n_,x.F_.P_,x.F_.V_,x.z_,x.q_,x.j_,()),fun (a0,a1,a2,a3,a4,a5,a6,a7,a8,_)=>some (show q12 from ⟨⟨a0,a1,a2⟩,⟨a3,a4,a5⟩,a6,a7,a8⟩),fun x y h=>by cases h;rfl⟩,
  ⟨131,false,[.pz 139],fun (x:q12)=>(x,()),fun (a0,_)=>some (show q12 from a0),fun x y h=>by cases h;rfl⟩]
def CC:Cod:=zw9 DD ET GLk glm (ziK zmJ zmK) (mps:=zwP zmJ zmK) (mpi:=zwQ zmJ zmK) (nst:=fun t=>bif Nat.beq t 137 then 2 else bif Nat.beq t 53 then 2 else 0) (own:=fun t=>Nat.beq t 137 || Nat.beq t 53 || false) (bz:=fun t=>Nat.beq t 139 || false)
def od:List Nat->List (Nat×Bool):=List.map fun n=>(n / 2,Nat.beq (n % 2) 1)
def spA (b:Bool) (Γ:List (Spec CC)) (f nr:Nat) (fn:Func) (I:Sig) (O:List (XK×Sig)) (H:Nat->G4 Hint):Spec CC:=⟨f,nr,I,O,fun x=>X2 ⟨b⟩ Γ lpO prog fn nr I O H x⟩
theorem kA {b : Bool} {Γ : List (Spec CC)} {f nr : Nat} {fn : Func} {I : Sig} {O : List (XK × Sig)} {H : Nat -> G4 Hint} (h : ∀ s ∈ Γ, s.OK prog) (e : (Tryz.prog.funcs[f]?, (fn.name == "runtime.NumGoroutine"), fn.body.isNone) = (some fn, false, false)) : (spA b Γ f nr fn I O H).OK prog :=
  yF h ZK ZJ H (Prod.mk.inj e).1 (Prod.mk.inj (Prod.mk.inj e).2).1 (Prod.mk.inj (Prod.mk.inj e).2).2 fun x=>rfl
abbrev ii:Sh :=.int .i64
abbrev c0:ESh :=.cell [.sl 49,.sl 80,.row 1,ii,.pr 1 53 0]
abbrev c1:ESh :=.cell [ii,.str,ii,ii,.nils]
abbrev c2:ESh :=.cell [.val 101]
abbrev c3:ESh :=.cell [.row 1,ii,ii,ii,ii]
abbrev c4:ESh :=.cell [.sl 177,.sl 171,.row 1,ii,ii]
abbrev c5:ESh :=.cell [.val 35]
abbrev c6:ESh :=.cell [ii,ii,.str,.str,.str,ii,.str,ii,.nils,ii,.bool]
abbrev c7:ESh :=.cell [.val 86]
abbrev c8:ESh :=.cell [.val 47]
abbrev c9:ESh :=.cell [ii,.str,ii,ii,.row 4]
abbrev c10:ESh :=.cell [.str,ii,ii,.nils,.nils]
abbrev c11:ESh :=.cell [ii]
abbrev c12:ESh :=.cell [.val 175]
abbrev c14:ESh :=.cell [ii,ii,.str,.str,.str,ii,.str,ii,.row 3,ii,.bool]
abbrev c15:ESh :=.cell [.sl 49,.sl 80,.row 1,ii,.pnil]
abbrev c16:ESh :=.cell [.str,ii,ii,.row 1,.row 2]
abbrev c17:ESh :=.cell [.str,.nils,.str,ii,ii]
abbrev c18:ESh :=.cell [ii,.str,ii,ii,.row 3]
abbrev c19:ESh :=.cell [.nils,.nils,.nils,.nils,.nils,.nils]
abbrev c20:ESh :=.cell [.val 71]
abbrev c21:ESh :=.cell [.val 163]
abbrev c23:ESh :=.cell [.str]
abbrev c24:ESh :=.cell [.row 1]
abbrev c25:ESh :=.cell [.str,ii,.nils]
abbrev c26:ESh :=.cell [.str,ii,ii,.row 2,.nils]
abbrev c28:ESh :=.cell [.nils]
abbrev c29:ESh :=.cell [.row 5,.sl 80,.row 1,.row 6,.sl 171,.row 3]
abbrev c30:ESh :=.cell [.str,ii,ii,.row 6,.nils]
abbrev c31:ESh :=.cell [.str,ii,ii,.row 2,.row 3]
abbrev c32:ESh :=.cell [.str,ii,ii,.row 6,.row 7]
abbrev c33:ESh :=.cell [.str,ii,ii,.row 5,.nils]
abbrev c34:ESh :=.cell [.str,.row 3,.str,ii,ii]
abbrev c35:ESh :=.cell [.val 30]
abbrev c36:ESh :=.cell [.sl 49,.sl 80,.row 5,ii,.pnil]
abbrev c37:ESh :=.cell [.str,.row 3,.nils]
abbrev c38:ESh :=.cell [ii,.str,ii,ii,.row 2]
abbrev c39:ESh :=.cell [.str,.nils,.nils]
abbrev c40:ESh :=.cell [.row 4]
abbrev c41:ESh :=.cell [.row 3,ii,ii,ii,ii]
abbrev c42:ESh :=.cell [.val 104]
abbrev c43:ESh :=.cell [.str,ii,ii,.row 7,.nils]
abbrev c44:ESh :=.cell [.str,.row 4,.str,ii,ii]
abbrev c45:ESh :=.cell [.str,.row 5,.str,ii,ii]
abbrev c46:ESh :=.cell [.nils,.nils,.nils,.nils]
abbrev c47:ESh :=.cell [.row 2]
abbrev c48:ESh :=.cell [.str,ii,.row 5]
abbrev c50:ESh :=.cell [.str,ii,ii,.row 4,.nils]
abbrev c51:ESh :=.cell [.row 3]
abbrev c52:ESh :=.cell [ii,.str,ii,ii,.row 5]
abbrev c53:ESh :=.cell [.str,ii,.row 7]
abbrev c56:ESh :=.cell [.str,ii,.row 6]
abbrev c57:ESh :=.cell [ii,ii]
abbrev HO:=XK×Sig
abbrev HP:=List (XK×Sig)
abbrev HQ:=List ESh
abbrev HR:=List (Nat×Sh)
def Ja:HO:=(.pan (.ifc 97 (.agg [ii,ii])),⟨[],[c2]⟩)
def Jb:HP:=[(.normal,⟨[(4,.bool)],[]⟩)]
def J0:HQ:=[c0,.forow 53]
def Jc:HO:=(.pan (.ifc 112 (.agg [ii,ii])),⟨[],J0⟩)
def Ho:Sig:=⟨[],[c0,.orow 53]⟩
def JC:HO:=(.pan (.ifc 112 (.agg [ii,ii])),Ho)
def JN:Sig:=⟨[(0,.pc 0 0),(4,.pc 2 0),(11,.sl 35),(12,ii),(13,ii)],[c0,.orow 53,c8]⟩
def Jd:HP:=[JC,(.normal,JN)]
def Je:HP:=[(.normal,⟨[(1,.row 0),(2,.row 1),(3,.pc 2 0),(10,ii),(11,.bool)],[.obj 0 43,.obj 0 43,c5]⟩)]
def Jf:HO:=(.normal,⟨[(0,.pc 0 0),(2,.pc 1 0),(3,.pc 2 0)],[c2,c1,c1]⟩)
def Jg:HP:=[(.ret,⟨[(0,.agg [ii,.str,ii,ii,.row 2])],[c3,.row 163,.row 86]⟩)]
def Jz:HQ:=[c3,.row 163,c1,c9,.row 86]
def Jh:HO:=(.normal,⟨[(0,.pc 0 0),(2,.pc 2 0),(5,.pc 3 0)],Jz⟩)
def Ji:HO:=(.pan (.ifc 112 (.agg [ii,ii])),⟨[(6,.pc 1 0),(7,.pc 2 0),(8,.pc 3 0)],[c5,c28,c11,c11]⟩)
def Jj:HO:=(.ret,⟨[(0,.agg [ii,.str,ii,ii,.row 1])],[c2,.row 35]⟩)
def Kx:HQ:=[c16,.row 214,.row 275]
def Jk:HO:=(.pan (.ifc 151 (.agg [ii,ii])),⟨[],Kx⟩)
def Jl:Sig:=⟨[(0,.pc 0 0)],[c3,.row 163]⟩
def Jm:HO:=(.normal,⟨[(0,.pc 0 0),(4,.pc 2 0)],[c24,.row 71,c14,.row 68]⟩)
def HA:HQ:=[c18,c11,c11,.row 35]
def KG:Sig:=⟨[(2,.pc 0 0),(3,.pc 1 0),(4,.pc 2 0)],HA⟩
def Jn:HP:=[(.pan (.ifc 97 (.agg [ii,ii])),KG),(.normal,⟨[(2,.pc 0 0),(3,.pc 1 0),(4,.pc 2 0),(6,.pc 3 0)],[c9,c11,c11,c2,.row 35]⟩)]
def Jo:HO:=(.normal,⟨[(0,.pc 0 0),(2,.pc 1 0)],[c2,c1]⟩)
def KI:HQ:=[.obj 0 43,.obj 0 43]
def Jp:HP:=[(.ret,⟨[(6,.bool)],KI⟩),(.normal,⟨[(1,.row 0),(2,.row 1),(3,.pc 2 0)],[.obj 0 43,.obj 0 43,c5]⟩)]
def Jq:HO:=(.ret,⟨[(4,.pc 1 0),(5,ii),(6,ii)],[.row 171,c26,.row 228]⟩)
def Jr:HP:=[(.ret,⟨[(0,.bool)],[]⟩)]
def Js:HP:=[(.normal,⟨[(29,.bool)],[]⟩)]
def Jt:Sig:=⟨[(2,.pc 1 0)],[c2,c5]⟩
def Ht:HQ:=[c15,.forow 53]
def Ju:HO:=(.pan (.ifc 112 (.agg [ii,ii])),⟨[],Ht⟩)
def Jv:Sig:=⟨[(0,.pc 0 0)],[c2]⟩
def Jw:HP:=[(.ret,⟨[(0,ii)],[]⟩)]
def Jx:HP:=[(.normal,⟨[(0,.pc 0 0),(6,.pc 2 0)],[c24,.row 71,c14,.row 68]⟩)]
def Jy:HO:=(.ret,⟨[(4,.pc 0 0),(5,ii),(6,ii)],[c17]⟩)
def J1:Sig:=⟨[(3,.pc 0 0),(6,.pc 1 0),(7,.pc 2 0),(8,.pc 3 0),(9,.pc 4 0),(20,.sl 35),(21,ii),(22,ii)],[c5,c28,c11,c11,c36,.orow 53]⟩
def J2:Sig:=⟨[(0,.str),(1,ii),(4,.pc 0 0),(6,.pc 1 0),(7,ii),(13,ii),(14,.bool)],[c21,c21]⟩
def HG:HQ:=[c3,.row 163,c1,c1]
def J3:Sig:=⟨[(0,.pc 0 0),(2,.pc 2 0),(3,.pc 3 0)],HG⟩
def J4:HO:=(.pan (.ifc 151 (.agg [ii,ii])),⟨[],[]⟩)
def J5:HP:=[(.normal,⟨[(1,.sl 171),(2,.pc 0 0),(4,.pc 1 0),(6,.pc 2 0)],[c7,c12,c12]⟩)]
def HM:HQ:=[c16,.row 214,.row 275,c5,c57]
def J6:Sig:=⟨[(0,.pc 0 0),(2,.sl 35),(4,.pc 3 0),(6,.pc 4 0),(11,.sl 35),(12,ii),(13,ii)],HM⟩
def J7:HO:=(.normal,⟨[(4,.pc 1 0),(7,.row 2),(8,.row 3),(10,.pc 4 0),(16,ii)],[.row 171,c10,.row 86,.row 86,c33,.row 228]⟩)
def J8:HO:=(.normal,⟨[(0,.str),(5,.row 0),(6,ii),(7,.pc 1 0),(8,ii)],[.row 104,c42]⟩)
def J9:Sig:=⟨[(2,.pc 0 0),(8,.pc 1 0),(9,.pc 2 0)],[c1,c41,c9,.row 163,.row 86]⟩
def JA:HQ:=[.row 171,c10,.row 86,.row 86,c7,c30,.row 228]
def HC:HQ:=[c0,.forow 53,c8,c8]
def JB:HO:=(.normal,⟨[(0,.pc 0 0),(4,.pc 2 0),(5,.pc 3 0)],HC⟩)
def KD:Sig:=⟨[(2,.pc 1 0),(3,.pc 2 0),(4,.pc 3 0)],[c5,c40,c11,c11,.row 80]⟩
def JD:HP:=[(.pan (.ifc 151 (.agg [ii,ii])),KD),(.normal,⟨[(2,.pc 1 0),(3,.pc 2 0),(4,.pc 3 0),(9,.sl 35),(10,ii),(11,ii)],[c5,c40,c11,c11,.row 80]⟩)]
def JE:Sig:=⟨[(2,.pc 0 0),(3,.pc 1 0),(4,.pc 2 0),(17,.sl 35),(18,ii),(19,ii)],[c39,c37,c40,.row 9,.row 71]⟩
def JF:HO:=(.ret,⟨[(2,.nils),(3,ii),(4,ii)],[]⟩)
def JG:HR:=[(0,.pc 0 0),(1,.val 35)]
def JH:HQ:=[.row 171,c10,.row 86,.row 86,c32,.row 3,.row 228,.row 231]
def JI:Sig:=⟨[(2,.pc 0 0),(9,ii),(10,.row 1),(12,ii),(13,.pc 2 0),(19,.row 3),(22,.pc 4 0),(72,.sl 35),(73,ii),(74,ii)],[c19,.row 49,c7,.row 177,c29,.row 35,.row 86]⟩
def JJ:Sig:=⟨[(0,.sl 80),(3,.pc 0 0),(4,.pc 1 0),(5,.sl 35),(6,.row 2),(7,.pc 3 0),(9,.pc 4 0),(10,ii),(33,.sl 35),(34,ii),(35,ii)],[c5,c10,.row 35,c33,c5,.row 214]⟩
def JK:Sig:=⟨[],[c47,.gone,.row 71]⟩
def JL:Sig:=⟨[(6,.pc 1 0),(7,.pc 2 0),(8,.pc 3 0),(9,.pc 4 0),(46,.sl 35),(47,ii),(48,ii)],[c5,c28,c11,c11,.cell [.sl 49,.sl 80,.row 5,ii,.pr 5 53 0],.orow 53]⟩
def JM:Sig:=⟨[(4,.pc 1 0),(7,.row 2),(8,.row 3),(10,.pc 4 0),(16,ii),(17,ii)],[.row 171,c10,.row 86,.row 86,.cell [.str,ii,ii,.row 5,.row 6],.row 228,.row 231]⟩
def JO:HP:=[(.ret,⟨[(0,.val 86)],[c3,.row 163]⟩)]
def JP:Sig:=⟨[(0,.str)],[]⟩
def JQ:HP:=[(.ret,⟨[(4,ii)],[c23]⟩),(.exit 0,⟨[],[c23]⟩)]
def JR:Sig:=⟨[(0,.pc 0 0),(1,ii)],[c2]⟩
def JS:HR:=[(0,.str),(5,.row 0),(6,ii)]
def JT:Sig:=⟨[(2,.row 0),(3,.row 1),(7,.sl 35),(8,ii),(9,ii)],[.row 35,.row 35]⟩
def JU:HQ:=[c2,c1,c18,.row 35]
def JV:Sig:=⟨[(0,.val 35)],[]⟩
def JW:Sig:=⟨[(0,.sl 80),(3,.pc 0 0),(4,.pc 1 0),(5,.sl 35),(6,.row 2),(7,.pc 3 0),(33,.sl 35),(34,ii),(35,ii)],[c5,c10,.row 35,c50,.row 214]⟩
def JX:HO:=(.ret,⟨[(4,.pc 1 0),(5,ii),(6,ii)],[.row 171,c31,.row 228,.row 231]⟩)
def JY:HO:=(.ret,⟨[(0,.val 35)],[c2]⟩)
def JZ:HO:=(.ret,⟨[(0,.row 1)],[c2,.row 35]⟩)
def Ka:HQ:=[.row 171,c10,.row 86,.row 86,c7,c43,c7,.row 228]
def Kb:HR:=[(0,.row 0),(1,ii),(2,ii)]
def Kc:Sig:=⟨[(1,.sl 80),(2,.pc 0 0),(4,.pc 1 0),(7,.pc 2 0),(8,ii),(11,.pc 3 0),(29,.sl 35),(30,ii),(31,ii)],[c5,c17,c44,c8,.row 47]⟩
def Kd:Sig:=⟨[(0,.pc 0 0),(3,.pc 2 0),(4,.pc 3 0),(5,ii),(6,.pc 4 0),(27,.sl 35),(28,ii),(29,ii)],[c15,.forow 53,c5,c25,c48,.row 47]⟩
def Ke:HO:=(.ret,⟨[(4,.pc 2 0)],[c0,.forow 53,c8]⟩)
def Kf:HP:=[(.ret,⟨[(0,.bool)],[c23]⟩)]
def Kg:HP:=[(.normal,⟨[(2,.bool)],[]⟩)]
def Kh:HR:=[(0,.pc 0 0),(1,.str)]
def Ki:HO:=(.ret,⟨[(4,.nils),(5,ii),(6,ii)],[]⟩)
def Kj:HO:=(.exit 0,⟨[(5,.row 1)],[c2,.row 35]⟩)
def Kk:Sig:=⟨[(0,.int .u8)],[]⟩
def Kl:Sig:=⟨[(4,.pc 1 0),(7,.row 2),(8,.row 3),(10,.pc 4 0),(16,ii),(17,ii),(18,.row 5),(19,ii)],JH⟩
def Km:Sig:=⟨[(1,.sl 171),(2,.pc 0 0),(4,.pc 1 0),(7,.pc 2 0),(8,ii),(9,ii)],[c7,c17,c34,.row 175]⟩
def Kn:HO:=(.normal,⟨[(0,.pc 0 0),(4,.pc 1 0),(5,.pc 2 0)],JU⟩)
def Ko:Sig:=⟨[(0,.pc 0 0),(4,.pc 2 0),(5,.pc 3 0)],Jz⟩
def Kq:Sig:=⟨[(0,.row 0),(4,.pc 1 0),(7,.row 2),(8,.row 3),(9,.pc 4 0),(10,.pc 5 0),(12,ii)],JA⟩
def Kr:HP:=[(.ret,⟨[(4,ii)],[]⟩),(.exit 0,⟨[],[]⟩)]
def Ks:HR:=[(0,.pc 0 0),(1,.pc 1 0),(2,.pc 2 0),(3,.nili)]
def Kt:Sig:=⟨[(0,.pc 0 0),(1,ii)],[c3,.row 163]⟩
def Ku:Sig:=⟨[(0,.pc 0 0),(2,.pc 1 0),(3,.pc 2 0),(69,.pc 3 0)],[c2,c1,c1,.cell []]⟩
def Kv:HO:=(.normal,⟨[(2,.pc 1 0),(3,.pc 2 0)],JU⟩)
def Ky:HO:=(.ret,⟨[(2,.pc 1 0)],[c2,c38,.row 35]⟩)
def Kz:HP:=[(.ret,⟨[(0,ii)],[c23]⟩)]
def KC:HP:=[(.normal,⟨[(0,.str),(1,ii),(2,ii),(3,ii),(4,ii),(11,.row 0)],[.row 231]⟩)]
def KE:Sig:=⟨[(1,.sl 80),(7,.row 0),(14,.sl 35),(15,ii),(16,ii)],[.row 49]⟩
def KF:HP:=[(.normal,⟨[(0,.pc 0 0),(2,.pc 1 0),(3,.pc 2 0),(18,.bool)],[c2,c1,c1]⟩)]
def KH:Sig:=⟨[(0,.val 86),(1,.sl 171)],[]⟩
def KJ:Sig:=⟨[(0,.str),(1,ii),(4,.pc 0 0),(6,.pc 1 0),(7,ii)],[c21,c21]⟩
def KK:Sig:=⟨[(1,.sl 171),(2,.pc 0 0),(7,.row 1),(8,ii)],[c7,.row 177]⟩
def KL:Sig:=⟨[(0,.val 35),(1,.sl 80)],[]⟩
def KM:Sig:=⟨[(0,.str),(1,ii),(2,ii)],[]⟩
def KO:Sig:=⟨[],[c3,.row 163]⟩
def KP:HP:=[(.ret,⟨[(4,ii)],[.row 47,c8]⟩),(.exit 0,⟨[],[.row 47,c8]⟩)]
def KQ:Sig:=⟨[(1,ii),(2,.pc 0 0),(5,.row 1),(6,ii)],[c7,.row 86]⟩
def KR:Sig:=⟨[(0,.pc 0 0),(4,.pc 2 0),(5,.pc 3 0),(7,.bool)],Jz⟩
def KT:Sig:=⟨[(0,.pc 0 0),(4,.pc 2 0),(5,.pc 3 0),(6,.bool)],Jz⟩
def KU:Sig:=⟨[(0,.row 0),(1,.clo 103 [.pc 1 0])],[.row 47,c8]⟩
def KV:Sig:=⟨[(0,.row 0),(1,.clo 101 [.pc 1 0])],[.row 47,c8]⟩
def KW:Sig:=⟨[(0,.pc 0 0),(3,.pc 1 0),(4,.pc 2 0)],[c2,c5,c1]⟩
def KX:Sig:=⟨[(0,.str),(1,.str)],[]⟩
def KY:HO:=(.ret,⟨[],J0⟩)
def KZ:HQ:=[c5,c28,c11,c11,.cell [.sl 49,.sl 80,.row 5,ii,.und],.orow 53]
def Ha:Sig:=⟨[(1,.pc 0 0),(5,.row 1),(6,ii)],[c7,.row 171]⟩
def Hb:HR:=[(0,.agg [ii,.str,ii,ii,.nils])]
def Hc:HP:=[(.ret,⟨[(10,.row 0)],[.row 275]⟩),(.normal,⟨[],[]⟩)]
def He:Sig:=⟨[(0,.str),(1,ii),(2,ii),(3,ii),(4,ii)],[]⟩
def Hf:Sig:=⟨[(0,.sl 35),(1,.clo 136 [.pc 0 0])],[c23]⟩
def Hg:HO:=(.normal,⟨[],J0⟩)
def Hh:Sig:=⟨[(0,.pc 0 0),(2,.pc 2 0),(3,.pc 3 0)],Jz⟩
def Hi:Sig:=⟨[(0,.pc 0 0),(2,.pc 1 0),(3,.pc 2 0)],JU⟩
def Hj:Sig:=⟨[(2,.pc 2 0)],[c3,.row 163,c18,.row 86]⟩
def Hk:HP:=[(.exit 0,⟨[(1,ii)],[]⟩)]
def Hl:HO:=(.ret,⟨[(0,.val 47)],J0⟩)
def Hm:HQ:=[c7,c17,c45,c7,c12,.row 175]
def Hn:Sig:=⟨[(3,.pc 1 0),(4,.pc 2 0)],[c2,c5,c1]⟩
def Hp:Sig:=⟨[(0,.str),(1,ii),(2,.clo 64 [])],[]⟩
def Hq:Sig:=⟨[(0,.str),(1,ii),(2,.clo 60 [])],[]⟩
def Hs:Sig:=⟨[(0,.str),(1,ii),(2,.clo 59 [])],[]⟩
def Hu:HR:=[(0,.pc 0 0),(4,.pc 2 0),(5,.pc 3 0),(10,.pc 4 0)]
def Hv:Sig:=⟨[(0,.val 35),(1,.pc 0 0)],[c23]⟩
def Hw:HQ:=[.forow 53,c5]
def Hx:HR:=[(4,.pc 0 0),(6,.pc 1 0)]
def Hy:HR:=[(0,.val 47),(1,.pc 0 0)]
def Hz:Sig:=⟨[(4,.pc 1 0)],[c2,c38,.row 35]⟩
def H0:HQ:=[c51,c11,c11,.forow 53]
def H3:HQ:=[c0,.forow 53,c5,c8,c8]
def H4:Sig:=⟨[(4,.pc 0 0),(5,ii)],[c21]⟩
def H5:HR:=[(0,.pc 0 0),(1,.val 35),(2,.bool),(3,ii)]
def H6:Sig:=⟨[(0,.bool)],[c3,.row 163]⟩
def H7:Sig:=⟨[(0,.val 104),(1,ii)],[]⟩
def H8:Sig:=⟨[(0,.bool)],[.row 47,c8]⟩
def H9:HQ:=[c51,c11,c11,.row 80]
def HB:Sig:=⟨[(0,ii)],[.row 47,c8]⟩
def HD:Sig:=⟨[(0,.str),(1,ii)],[]⟩
def HE:HP:=[(.normal,J3)]
def HF:Sig:=⟨[(0,.val 104)],[c2]⟩
def HH:HQ:=[c24,.row 71,c5,c6]
def HI:Sig:=⟨[(0,.val 86)],[]⟩
def HJ:Sig:=⟨[(0,.val 68)],[]⟩
def HK:Sig:=⟨[(0,.bool)],[c8]⟩
def HL:Sig:=⟨[(0,.bool)],[c2]⟩
def HN:HP:=[(.exit 0,⟨[(3,ii)],[]⟩)]
def P0:=spA false [] 59 1 f59 Kk Jr (hfind [])
theorem K0:P0.OK prog:=kA zf (by kernel_rfl)
def P1:=spA false [P0] 58 1 f58 Hs Jw (hfind [(4,.loop Hs Hk),(7,.cut [(.normal,⟨[(0,.str),(1,ii),(2,.clo 59 []),(17,.bool)],[]⟩)])])
theorem K1:P1.OK prog:=kA (za K0 zf) (by kernel_rfl)
def P2:=spA false [] 60 1 f60 Kk Jr (hfind [(3,.cut Kg)])
theorem K2:P2.OK prog:=kA zf (by kernel_rfl)
def P3:=spA false [P2] 58 1 f58 Hq Jw (hfind [(4,.loop Hq Hk),(7,.cut [(.normal,⟨[(0,.str),(1,ii),(2,.clo 60 []),(17,.bool)],[]⟩)])])
theorem K3:P3.OK prog:=kA (za K2 zf) (by kernel_rfl)
def I4:Sig:=KM
def O4:List (XK×Sig):=[(.ret,⟨[(0,ii),(1,.nili)],[]⟩),(.ret,⟨[(0,ii),(1,.ifc 285 (.und))],[]⟩)]
def F4 (x:I4.ty CC):G4 (zi CC O4):=XM x
def P4:Spec CC:=⟨118,2,I4,O4,F4⟩
theorem K4:P4.OK prog:=zhx (fn:=f118) (by kernel_rfl) (by kernel_rfl) (by kernel_rfl) (fun s hs v h w=>Tryz.strconv_ParseInt_10_at64_ok s hs v h w) (fun s hs h w Z hg hw=>by
    obtain ⟨⟨t,p,a⟩,_⟩:=hg
    refine (Tryz.strconv_ParseInt_10_at64_syntax s hs h _ w (hw 0 0 _ a) (.inr ⟨_,_,rfl⟩)).mono ?_
    rintro e w' ⟨N,rfl,_,_,hb⟩
    exact ⟨_,rfl,hb⟩) (fun s hs h w Z hg hw=>by
    obtain ⟨_,t,p,a⟩:=hg
    refine (Tryz.strconv_ParseInt_10_at64_range s hs h _ w (hw 1 0 _ a) (.inr ⟨_,_,rfl⟩)).mono ?_
    rintro e w' ⟨N,rfl,_,_,hb⟩
    exact ⟨_,rfl,hb⟩)
def P5:=spA false [] 62 1 f62 Kk Jr (hfind [(3,.cut Kg)])
theorem K5:P5.OK prog:=kA zf (by kernel_rfl)
def P6:=spA false [P4,P5] 61 2 f61 KM [(.ret,H7)] (hfind [(5,.cut [(.normal,⟨[(0,.str),(1,ii),(2,ii),(6,.pc 0 0),(8,.str),(9,ii),(10,.nili)],[c42]⟩),(.normal,⟨[(0,.str),(1,ii),(2,ii),(6,.pc 0 0),(8,.str),(9,ii),(10,.ifc 285 (.und))],[c42]⟩)])])
theorem K6:P6.OK prog:=kA (za K4 (za K5 zf)) (by kernel_rfl)
def P7:=spA false [P5,P2] 64 1 f64 Kk Jr (hfind [(3,.cut Kg)])
theorem K7:P7.OK prog:=kA (za K5 (za K2 zf)) (by kernel_rfl)
def P8:=spA false [P7] 58 1 f58 Hp Jw (hfind [(4,.loop Hp Hk),(7,.cut [(.normal,⟨[(0,.str),(1,ii),(2,.clo 64 []),(17,.bool)],[]⟩)])])
theorem K8:P8.OK prog:=kA (za K7 zf) (by kernel_rfl)
def P9:=spA false [] 119 1 f119 JP Jr (hfind [(9,.cut Jb),(13,.cut Jb),(17,.cut Jb),(21,.cut Jb),(25,.cut Jb),(29,.cut Jb),(33,.cut Jb),(37,.cut Jb),(41,.cut Jb),(45,.cut Jb),(49,.cut Jb),(53,.cut Jb),(57,.cut Jb),(61,.cut Jb),(65,.cut Jb),(69,.cut Jb),(73,.cut Jb),(77,.cut Jb),(81,.cut Jb)])
theorem K9:P9.OK prog:=kA zf (by kernel_rfl)
def P10:=spA false [P9] 63 2 f63 KM [(.ret,H7)] (hfind [(15,.cut [(.normal,⟨[(6,.pc 0 0),(8,.pc 1 0)],[c42,c42]⟩)])])
theorem K10:P10.OK prog:=kA (za K9 zf) (by kernel_rfl)
def P11:=spA false [] 150 1 f150 KX Jr (hfind [(3,.cut Jb)])
theorem K11:P11.OK prog:=kA zf (by kernel_rfl)
def P12:=spA false [P11] 120 1 f120 KX Jr (hfind [])
theorem K12:P12.OK prog:=kA (za K11 zf) (by kernel_rfl)
def I13:Sig:=⟨[(0,.str),(1,.int .u8)],[]⟩
def O13:List (XK×Sig):=Jw
def F13 (x:I13.ty CC):G4 (zi CC O13):=wG x
def P13:Spec CC:=⟨121,1,I13,O13,F13⟩
theorem K13:P13.OK prog:=zgg (fn:=f121) (by kernel_rfl) (by kernel_rfl) (by kernel_rfl) fun s c w=>Tryz.strings_IndexByte s c w
def P14:=spA false [P12,P13] 65 1 f65 JP [(.ret,JP)] (hfind [(6,.loop ⟨[(0,.str),(5,.agg [.str,.str,.str]),(6,ii)],[]⟩ [(.ret,⟨[(2,.str)],[]⟩),(.exit 0,JP)])])
theorem K14:P14.OK prog:=kA (za K12 (za K13 zf)) (by kernel_rfl)
def P15:=spA false [P1,P2,P3,P6,P5,P8,P10,P14] 23 3 f23 JP [(.ret,⟨Kb,[.row 104]⟩)] (hfind [(2,.cut [(.ret,⟨[(2,.row 0),(3,ii),(4,ii)],[.row 104]⟩)]),(19,.loop ⟨JS,[.row 104]⟩ [JF,(.exit 0,⟨[(0,.str),(5,.row 0)],[.row 104]⟩)]),(26,.cut [(.normal,⟨JS,[.row 104]⟩),JF]),(36,.cut [(.normal,⟨[(0,.str),(5,.row 0),(6,ii),(7,.pc 1 0),(8,ii),(9,.int .u8),(29,.bool)],[.row 104,c42]⟩)]),(37,.cut [(.exit 1,⟨JS,[.row 104]⟩),J8]),(49,.cut [J8]),(53,.cut [J8]),(59,.cut [J8])])
theorem K15:P15.OK prog:=kA (za K1 (za K2 (za K3 (za K6 (za K5 (za K8 (za K10 (za K14 zf)))))))) (by kernel_rfl)
def P16:=spA false [] 25 1 f25 Jv [(.ret,HF)] (hfind [])
theorem K16:P16.OK prog:=kA zf (by kernel_rfl)
def P17:=spA false [P16] 66 1 f66 ⟨Kh,[c2]⟩ [(.ret,HL)] (hfind [(5,.cut [(.normal,⟨[(4,.bool)],[c2]⟩)])])
theorem K17:P17.OK prog:=kA (za K16 zf) (by kernel_rfl)
def P18:=spA false [P17] 26 1 f26 ⟨Kh,[c2]⟩ [(.ret,HL)] (hfind [])
theorem K18:P18.OK prog:=kA (za K17 zf) (by kernel_rfl)
def P19:=spA false [P16] 70 0 f70 JR [Ja] (hfind [])
theorem K19:P19.OK prog:=kA (za K16 zf) (by kernel_rfl)
def P20:=spA false [P16,P19] 122 1 f122 JR [Ja,(.ret,HF)] (hfind [])
theorem K20:P20.OK prog:=kA (za K16 (za K19 zf)) (by kernel_rfl)
def P21:=spA false [P20] 67 1 f67 Jv [Ja,(.ret,⟨Hb,[c2]⟩)] (hfind [])
theorem K21:P21.OK prog:=kA (za K20 zf) (by kernel_rfl)
def P22:=spA false [P18,P19] 28 0 f28 ⟨Kh,[c2]⟩ [Ja,(.ret,⟨[],[c2]⟩)] (hfind [])
theorem K22:P22.OK prog:=kA (za K18 (za K19 zf)) (by kernel_rfl)
def P23:=spA false [P16,P18,P22,P21] 71 1 f71 Jv [JY,Ja] (hfind [(14,.cut [Jf,Ja]),(20,.cut [Jf])])
theorem K23:P23.OK prog:=kA (za K16 (za K18 (za K22 (za K21 zf)))) (by kernel_rfl)
def P24:=spA false [P21,P22,P23] 69 1 f69 Jv [Ja,Jj] (hfind [])
theorem K24:P24.OK prog:=kA (za K21 (za K22 (za K23 zf))) (by kernel_rfl)
def P25:=spA false [P24,P18] 68 1 f68 ⟨[(0,.pc 0 0),(1,.clo 69 [.tup [.pc 0 0]])],[c2]⟩ [Ja,JZ] (hfind [(6,.loop ⟨[(0,.pc 0 0),(1,.clo 69 [.tup [.pc 0 0]]),(5,.row 1)],[c2,.row 35]⟩ [Ja,Kj])])
theorem K25:P25.OK prog:=kA (za K24 (za K18 zf)) (by kernel_rfl)
def P26:=spA false [] 152 1 f152 ⟨[(0,.val 35),(1,.pc 0 0)],[c11]⟩ [(.ret,⟨[(0,.val 35)],[c11]⟩)] (hfind [])
theorem K26:P26.OK prog:=kA zf (by kernel_rfl)
def P27:=spA false [P22] 153 1 f153 ⟨JG,[c2]⟩ [Ja,JY] (hfind [])
theorem K27:P27.OK prog:=kA (za K22 zf) (by kernel_rfl)
def P28:=spA false [P20] 158 1 f158 JR [Ja,(.ret,⟨[(0,ii)],[c2]⟩)] (hfind [])
theorem K28:P28.OK prog:=kA (za K20 zf) (by kernel_rfl)
def P29:=spA false [P21,P22,P28] 154 1 f154 JR [Ja,(.ret,⟨Hb,[c2]⟩)] (hfind [])
theorem K29:P29.OK prog:=kA (za K21 (za K22 (za K28 zf))) (by kernel_rfl)
def P30:=spA false [P18,P28] 159 1 f159 ⟨JG,[c2]⟩ [Ja,JY] (hfind [(6,.cut [Ja,(.normal,Hn)]),(10,.cut [Ja,(.normal,Hn)])])
theorem K30:P30.OK prog:=kA (za K18 (za K28 zf)) (by kernel_rfl)
def P31:=spA false [P16,P28,P18,P21,P30] 124 1 f124 Jv [Ja,JY] (hfind [(8,.cut [Ja,(.ret,⟨[(2,.pc 1 0)],[c2,c1]⟩),Jo]),(20,.cut [Ja,(.normal,Jt)])])
theorem K31:P31.OK prog:=kA (za K16 (za K28 (za K18 (za K21 (za K30 zf))))) (by kernel_rfl)
def P32:=spA false [P18,P19] 125 1 f125 Jv [(.ret,⟨[(0,.str)],[c2]⟩),Ja] (hfind [(6,.loop ⟨[(0,.pc 0 0),(5,.agg [.str,.str,.str]),(6,ii)],[c2]⟩ [(.ret,⟨[(2,.str)],[c2]⟩),(.exit 0,Jv)])])
theorem K32:P32.OK prog:=kA (za K18 (za K19 zf)) (by kernel_rfl)
def P33:=spA false [P31,P32] 75 1 f75 Jv [Ja,Jj] (hfind [(7,.draw (od [1,3,5,7,9,10,12,15,16]) [])])
theorem K33:P33.OK prog:=kA (za K31 (za K32 zf)) (by kernel_rfl)
def P34:=spA false [P31,P18] 68 1 f68 ⟨[(0,.pc 0 0),(1,.clo 124 [.tup [.pc 0 0]])],[c2]⟩ [Ja,JZ] (hfind [(6,.loop ⟨[(0,.pc 0 0),(1,.clo 124 [.tup [.pc 0 0]]),(5,.row 1)],[c2,.row 35]⟩ [Ja,Kj])])
theorem K34:P34.OK prog:=kA (za K31 (za K18 zf)) (by kernel_rfl)
def P35:=spA false [P22,P18,P34] 156 1 f156 Jv [Ja,JZ] (hfind [])
theorem K35:P35.OK prog:=kA (za K22 (za K18 (za K34 zf))) (by kernel_rfl)
def I36:Sig:=Jv
def O36:List (XK×Sig):=[Ja,JY]
def H36:Nat->G4 Hint:=hfind [(8,.cut [Ja,(.ret,Jt),Jf]),(16,.cut [Ja,(.ret,Jt),Jf]),(24,.cut [Ja,(.ret,Jt),Jf]),(30,.cut [Jf]),(51,.cut [Ja,Ky,Jf]),(59,.cut [Ja,Ky,Jf]),(69,.cut [Ja,Ky,Jf]),(70,.loop Ku []),(83,.cut [(.normal,⟨[(0,.pc 0 0),(2,.pc 1 0),(3,.pc 2 0),(4,.str),(5,ii),(69,.pc 3 0),(87,.bool)],[c2,c1,c1,.cell []]⟩)]),(84,.cut [(.pan (.ifc 97 (.agg [ii,ii])),⟨[],[c2,c1,c1,.cell []]⟩),(.ret,⟨[(2,.pc 1 0)],[c2,c9,c1,.cell [],.row 35]⟩),(.normal,Ku)]),(88,.draw (od [1,3,5,7,9,10,12,15,16]) [])]
def F36 (x:I36.ty CC):G4 (zi CC O36):=zmE ⟨false⟩ [P16,P18,P28,P21,P31,P17,P35,P22,P30] lpO prog f180 1 I36 O36 H36 x
def P36:Spec CC:=⟨180,1,I36,O36,F36⟩
theorem K36:Spec.OK prog P36:=zt6 (za K16 (za K18 (za K28 (za K21 (za K31 (za K17 (za K35 (za K22 (za K30 zf))))))))) ZK ZJ H36 (by kernel_rfl) (by kernel_rfl) (by kernel_rfl) fun x=>rfl
def P37:=spA false [P17,P35,P18,P31,P22,P36] 157 1 f157 ⟨JG,[c2]⟩ [Ja,Jj] (hfind [(6,.cut [Ja,(.ret,Hz),(.normal,KW)]),(16,.cut [Ja,(.ret,Hz),(.normal,KW)]),(24,.draw (od [1,3,5,6,8,10,13,14]) [])])
theorem K37:P37.OK prog:=kA (za K17 (za K35 (za K18 (za K31 (za K22 (za K36 zf)))))) (by kernel_rfl)
def I38:Sig:=⟨[(0,.pc 0 0),(1,ii),(2,ii)],[c2]⟩
def O38:List (XK×Sig):=[Ja,Jj]
def H38:Nat->G4 Hint:=hfind [(7,.draw (od [1,3,5,6,8,10,13,14]) [])]
def I39:Sig:=Jv
def O39:List (XK×Sig):=[Ja,JY]
def H39:Nat->G4 Hint:=hfind [(10,.cut [Ja,(.ret,Jt),Jo]),(20,.cut [Ja,(.ret,Jt),Jo]),(22,.cut [Ja,(.normal,Jt)]),(26,.cut [Ja,(.ret,Jt),Jo]),(28,.cut [Ja,(.normal,Jt)]),(32,.cut [Ja,(.ret,Jt),Jo]),(38,.cut [Ja,(.normal,⟨[(2,.pc 1 0),(6,.pc 2 0)],JU⟩)]),(39,.draw (od [1,3,5,6,8,10,13,14]) []),(46,.cut [Ja,(.ret,Jt),Jo]),(52,.cut [Ja,(.ret,Jt),Jo]),(58,.cut [Ja,(.normal,⟨[(0,.pc 0 0),(2,.pc 1 0),(7,.pc 2 0)],JU⟩)]),(66,.cut [Ja,(.ret,Jt),Jo]),(72,.cut [Ja,(.ret,Jt),Jo]),(82,.cut [Ja,(.normal,Jt)])]
def I40:Sig:=Jv
def O40:List (XK×Sig):=[Ja,Jj]
def H40:Nat->G4 Hint:=hfind [(6,.cut [(.normal,⟨[(0,.pc 0 0),(2,.pc 1 0),(3,.pc 2 0),(16,.bool)],[c2,c1,c1]⟩)]),(16,.loop Hi [Ja,(.exit 0,Hi)]),(24,.draw (od [1,3,5,6,8,10,13,14]) [])]
def zgp (h:I40.ty CC->G4 (zi CC O40)):Spec CC:=⟨72,1,I40,O40,h⟩
def zmL (h:I40.ty CC->G4 (zi CC O40)) (x:I38.ty CC):G4 (zi CC O38):=X2 ⟨false⟩ [P33,zgp h] lpO prog f155 1 I38 O38 H38 x
def zva (h:I40.ty CC->G4 (zi CC O40)):Spec CC:=⟨155,1,I38,O38,zmL h⟩
theorem zxI {h:I40.ty CC->G4 (zi CC O40)}(hh:Spec.OK prog (zgp h)):Spec.OK prog (zva h):=yF (za K33 (za hh zf)) ZK ZJ H38 (by kernel_rfl) (by kernel_rfl) (by kernel_rfl) fun x=>rfl
def zmM (h:I40.ty CC->G4 (zi CC O40)) (x:I39.ty CC):G4 (zi CC O39):=X2 ⟨false⟩ [P16,P18,P21,P26,P27,P29,zva h,zgp h,P17,P31,P35,P37] lpO prog f123 1 I39 O39 H39 x
def zvb (h:I40.ty CC->G4 (zi CC O40)):Spec CC:=⟨123,1,I39,O39,zmM h⟩
theorem zxJ {h:I40.ty CC->G4 (zi CC O40)}(hh:Spec.OK prog (zgp h)):Spec.OK prog (zvb h):=yF (za K16 (za K18 (za K21 (za K26 (za K27 (za K29 (za (zxI hh) (za hh (za K17 (za K31 (za K35 (za K37 zf)))))))))))) ZK ZJ H39 (by kernel_rfl) (by kernel_rfl) (by kernel_rfl) fun x=>rfl
def zmN (h:I40.ty CC->G4 (zi CC O40)) (x:I40.ty CC):G4 (zi CC O40):=X2 ⟨false⟩ [P16,P17,P19,P22,P18,zvb h] lpO prog f72 1 I40 O40 H40 x
def zxK (h:I40.ty CC->G4 (zi CC O40)):Spec CC:=⟨72,1,I40,O40,zmN h⟩
theorem zxL {h:I40.ty CC->G4 (zi CC O40)}(hh:Spec.OK prog (zgp h)):Spec.OK prog (zxK h):=yF (za K16 (za K17 (za K19 (za K22 (za K18 (za (zxJ hh) zf)))))) ZK ZJ H40 (by kernel_rfl) (by kernel_rfl) (by kernel_rfl) fun x=>rfl
def zjG:Nat->I40.ty CC->G4 (zi CC O40)
  |0=>fun _=>none
  |k+1=>zmN (zjG k)
theorem zvc:∀ k,Spec.OK prog (zgp (zjG k))
  |0=>⟨f72,by kernel_rfl,by kernel_rfl,by kernel_rfl,fun x r h=>by cases h⟩
  |k+1=>zxL (zvc k)
def F40 (x:I40.ty CC):G4 (zi CC O40):=zjG 100000 x
def P40:Spec CC:=⟨72,1,I40,O40,F40⟩
theorem K40:Spec.OK prog P40:=zvc 100000
def P41:=spA false [P21,P22,P17,P25,P18,P19,P23,P16,P40] 27 1 f27 JR [Ja,Jj] (hfind [(11,.cut [Ja,Kn]),(21,.cut [Ja,(.normal,⟨[(0,.pc 0 0),(4,.pc 1 0),(5,.pc 2 0),(6,.pc 3 0)],[c2,c1,c9,c5,.row 35]⟩)]),(31,.draw (od [1,3,5,7,8,10,12,15,16]) [])])
theorem K41:P41.OK prog:=kA (za K21 (za K22 (za K17 (za K25 (za K18 (za K19 (za K23 (za K16 (za K40 zf))))))))) (by kernel_rfl)
def P42:=spA false [P16,P18,P21,P19] 73 1 f73 Jv [Jj,Ja] (hfind [(9,.cut [(.normal,⟨[(0,.pc 0 0),(2,.pc 1 0),(3,.pc 2 0),(13,.bool)],[c2,c1,c1]⟩)]),(12,.cut [Kv,Ja]),(17,.cut KF),(21,.cut KF),(24,.cut [Ja,Kv])])
theorem K42:P42.OK prog:=kA (za K16 (za K18 (za K21 (za K19 zf)))) (by kernel_rfl)
def P43:=spA false [P21,P18,P22] 74 1 f74 Jv [Ja,Jj] (hfind [(9,.cut [Ja,Kv])])
theorem K43:P43.OK prog:=kA (za K21 (za K18 (za K22 zf))) (by kernel_rfl)
def P44:=spA false [P43,P18] 68 1 f68 ⟨[(0,.pc 0 0),(1,.clo 74 [.tup [.pc 0 0]])],[c2]⟩ [Ja,JZ] (hfind [(6,.loop ⟨[(0,.pc 0 0),(1,.clo 74 [.tup [.pc 0 0]]),(5,.row 1)],[c2,.row 35]⟩ [Ja,Kj])])
theorem K44:P44.OK prog:=kA (za K43 (za K18 zf)) (by kernel_rfl)
def P45:=spA false [P33,P18] 68 1 f68 ⟨[(0,.pc 0 0),(1,.clo 75 [.tup [.pc 0 0]])],[c2]⟩ [Ja,JZ] (hfind [(6,.loop ⟨[(0,.pc 0 0),(1,.clo 75 [.tup [.pc 0 0]]),(5,.row 1)],[c2,.row 35]⟩ [Ja,Kj])])
theorem K45:P45.OK prog:=kA (za K33 (za K18 zf)) (by kernel_rfl)
def P46:=spA false [P21,P42,P18,P44,P22,P45] 29 1 f29 JR [Ja,Jj] (hfind [(9,.cut [Ja,Kn]),(11,.draw (od [1,3,5,7,9,10,12,15,16]) []),(17,.cut [Ja,Kn]),(18,.draw (od [1,3,5,7,9,10,12,15,16]) [])])
theorem K46:P46.OK prog:=kA (za K21 (za K42 (za K18 (za K44 (za K22 (za K45 zf)))))) (by kernel_rfl)
def I47:Sig:=JV
def O47:List (XK×Sig):=Jw
def H47:Nat->G4 Hint:=hfind [(8,.loop ⟨[(3,ii),(7,.sl 35),(8,ii),(9,ii)],[]⟩ HN)]
def zqQ (h:I47.ty CC->G4 (zi CC O47)):Spec CC:=⟨30,1,I47,O47,h⟩
def zmO (h:I47.ty CC->G4 (zi CC O47)) (x:I47.ty CC):G4 (zi CC O47):=X2 ⟨false⟩ [zqQ h] lpO prog f30 1 I47 O47 H47 x
def zxM (h:I47.ty CC->G4 (zi CC O47)):Spec CC:=⟨30,1,I47,O47,zmO h⟩
theorem zxN {h:I47.ty CC->G4 (zi CC O47)}(hh:Spec.OK prog (zqQ h)):Spec.OK prog (zxM h):=yF (za hh zf) ZK ZJ H47 (by kernel_rfl) (by kernel_rfl) (by kernel_rfl) fun x=>rfl
def zjH:Nat->I47.ty CC->G4 (zi CC O47)
  |0=>fun _=>none
  |k+1=>zmO (zjH k)
theorem zvd:∀ k,Spec.OK prog (zqQ (zjH k))
  |0=>⟨f30,by kernel_rfl,by kernel_rfl,by kernel_rfl,fun x r h=>by cases h⟩
  |k+1=>zxN (zvd k)
def F47 (x:I47.ty CC):G4 (zi CC O47):=zjH 100000 x
def P47:Spec CC:=⟨30,1,I47,O47,F47⟩
theorem K47:Spec.OK prog P47:=zvd 100000
def I48:Sig:=⟨[(0,.pc 0 0),(1,.pc 1 0),(2,.pc 2 0),(3,.ifc 97 (.agg [ii,ii]))],HA⟩
def O48:List (XK×Sig):=[(.ret,⟨[],[c1,c11,c11,.row 35]⟩)]
def H48:Nat->G4 Hint:=hfind [(5,.draw (od [1,3,5,7,9,10,12,14]) [])]
def F48 (x:I48.ty CC):G4 (zi CC O48):=zbo ⟨false⟩ [] lpO prog f24 0 I48 O48 H48 x
def P48:Spec CC:=⟨24,0,I48,O48,F48⟩
theorem K48:Spec.OKD prog P48:=vx zf ZK ZJ H48 (by kernel_rfl) (by kernel_rfl) (by kernel_rfl) fun x=>rfl
def I49:Sig:=⟨Ks,HA⟩
def O49:List (XK×Sig):=[(.ret,⟨[],HA⟩)]
def H49:Nat->G4 Hint:=hfind []
def F49 (x:I49.ty CC):G4 (zi CC O49):=zbo ⟨false⟩ [] lpO prog f24 0 I49 O49 H49 x
def P49:Spec CC:=⟨24,0,I49,O49,F49⟩
theorem K49:Spec.OKD prog P49:=vx zf ZK ZJ H49 (by kernel_rfl) (by kernel_rfl) (by kernel_rfl) fun x=>rfl
def I50:Sig:=JP
def O50:List (XK×Sig):=[(.ret,⟨[(0,.val 35),(1,ii),(2,ii)],[]⟩)]
def H50:Nat->G4 Hint:=hfind [(9,.draw (od [1,3,5,6,8,10]) []),(13,.loop ⟨[(2,.pc 0 0),(3,.pc 1 0),(4,.pc 2 0),(5,.sl 104),(19,.clo 24 [.pc 0 0,.pc 1 0,.pc 2 0])],[c1,c11,c11]⟩ []),(18,.loop ⟨[(2,.pc 0 0),(3,.pc 1 0),(4,.pc 2 0),(6,.pc 3 0)],[c9,c11,c11,c2,.row 35]⟩ [(.pan (.ifc 97 (.agg [ii,ii])),KG),(.exit 0,KG)]),(25,.cut Jn),(33,.draw (od [1,3,5,7,11,13,8,14,17,21,9366,22,18]) Jn),(38,.draw (od [1,3,5,7,11,13,8,14,17,21,9366,22,18]) Jn)]
def F50 (x:I50.ty CC):G4 (zi CC O50):=zgh ⟨false⟩ [P15,P16,P18,P41,P22,P46,P47] (P49) (P48) lpO prog f7 3 I50 O50 H50 x
def P50:Spec CC:=⟨7,3,I50,O50,F50⟩
theorem K50:Spec.OK prog P50:=zgi (za K15 (za K16 (za K18 (za K41 (za K22 (za K46 (za K47 zf))))))) K49 K48 ZK ZJ H50 (by kernel_rfl) (by kernel_rfl) (by kernel_rfl) fun x=>rfl
def P51:=spA false [] 94 2 f94 JV [(.ret,⟨[(0,.row 0),(1,.row 1)],[.row 35,.row 35]⟩)] (hfind [(6,.loop JT [(.exit 0,⟨[(2,.row 0),(3,.row 1)],[.row 35,.row 35]⟩)]),(22,.cut [(.normal,JT)]),(26,.cut [(.normal,JT)])])
theorem K51:P51.OK prog:=kA zf (by kernel_rfl)
def P52:=spA false [] 127 1 f127 ⟨[(0,.val 80),(1,.pc 0 0)],[c23]⟩ Kf (hfind [])
theorem K52:P52.OK prog:=kA zf (by kernel_rfl)
def P53:=spA false [P52] 126 1 f126 ⟨[(0,.sl 80),(1,.clo 127 [.pc 0 0])],[c23]⟩ Kz (hfind [(6,.loop ⟨[(0,.sl 80),(1,.clo 127 [.pc 0 0]),(7,ii),(8,ii)],[c23]⟩ JQ)])
theorem K53:P53.OK prog:=kA (za K52 zf) (by kernel_rfl)
def P54:=spA false [P53] 79 1 f79 ⟨[(0,.sl 80),(1,.str)],[]⟩ Jw (hfind [])
theorem K54:P54.OK prog:=kA (za K53 zf) (by kernel_rfl)
def P55:=spA false [] 95 0 f95 ⟨[(0,.bool),(1,.val 35),(2,ii)],[]⟩ [J4,(.ret,⟨[],[]⟩)] (hfind [])
theorem K55:P55.OK prog:=kA zf (by kernel_rfl)
def P56:=spA false [] 136 1 f136 Hv Kf (hfind [])
theorem K56:P56.OK prog:=kA zf (by kernel_rfl)
def P57:=spA false [P56] 137 1 f137 Hf Kz (hfind [(6,.loop ⟨[(0,.sl 35),(1,.clo 136 [.pc 0 0]),(7,ii),(8,ii)],[c23]⟩ JQ)])
theorem K57:P57.OK prog:=kA (za K56 zf) (by kernel_rfl)
def P58:=spA false [P57] 135 1 f135 Hf Kf (hfind [])
theorem K58:P58.OK prog:=kA (za K57 zf) (by kernel_rfl)
def P59:=spA false [P58] 96 1 f96 ⟨[(0,.sl 35),(1,.str)],[]⟩ Jr (hfind [])
theorem K59:P59.OK prog:=kA (za K58 zf) (by kernel_rfl)
def P60:=spA false [] 138 1 f138 Hv Kf (hfind [(3,.cut [(.normal,⟨[(3,.bool)],[c23]⟩)])])
theorem K60:P60.OK prog:=kA zf (by kernel_rfl)
def P61:=spA false [P60] 137 1 f137 ⟨[(0,.sl 35),(1,.clo 138 [.pc 0 0])],[c23]⟩ Kz (hfind [(6,.loop ⟨[(0,.sl 35),(1,.clo 138 [.pc 0 0]),(7,ii),(8,ii)],[c23]⟩ JQ)])
theorem K61:P61.OK prog:=kA (za K60 zf) (by kernel_rfl)
def P62:=spA false [P61] 97 1 f97 ⟨[(0,.val 80),(1,.str),(2,.sl 35)],[]⟩ Jw (hfind [])
theorem K62:P62.OK prog:=kA (za K61 zf) (by kernel_rfl)
def P63:=spA false [] 139 1 f139 ⟨[(0,.sl 9),(1,.str)],[]⟩ Jw (hfind [(6,.loop ⟨[(0,.sl 9),(1,.str),(7,ii),(8,ii)],[]⟩ Kr)])
theorem K63:P63.OK prog:=kA zf (by kernel_rfl)
def P64:=spA false [P63,P62,P55,P54] 98 0 f98 ⟨[(0,.sl 80),(1,.pc 0 0),(2,.val 35),(3,.sl 35),(4,.sl 35)],Kx⟩ [Jk,(.ret,⟨[],Kx⟩)] (hfind [(10,.cut [(.normal,⟨[(0,.sl 80),(1,.pc 0 0),(3,.sl 35),(4,.sl 35),(7,.pc 3 0),(20,ii),(21,.bool)],[c16,.row 214,.row 275,c5]⟩)]),(13,.cut [Jk,(.normal,⟨[],Kx⟩)]),(15,.draw (od [1,3,5,7,9,11,13,15,17,19,20,23,25,26]) []),(16,.draw (od [1,3,5,7,9,11,12]) []),(19,.cut [Jk,(.normal,⟨[],Kx⟩)]),(23,.draw (od [1,3,5,7,9,11,13,15,17,19,21,23,25,27,29,31,33,34]) [Jk,(.normal,⟨[(3,.sl 35),(4,.sl 35),(7,.pc 3 0)],[c16,.row 214,.row 275,c5]⟩)])])
theorem K64:P64.OK prog:=kA (za K63 (za K62 (za K55 (za K54 zf)))) (by kernel_rfl)
def P65:=spA false [] 140 1 f140 He [(.ret,⟨[(0,.row 0)],[.row 275]⟩)] (hfind [(8,.cut Hc),(14,.cut Hc)])
theorem K65:P65.OK prog:=kA zf (by kernel_rfl)
def P66:=spA false [P62,P55,P65] 99 0 f99 ⟨[(0,.pc 0 0),(1,.val 35),(2,.sl 35)],Kx⟩ [Jk,(.ret,⟨[],[.cell [.str,ii,ii,.row 1,.row 3],.row 214,.gone,.row 275]⟩)] (hfind [(8,.loop J6 [Jk,(.exit 0,⟨[(0,.pc 0 0),(4,.pc 3 0),(6,.pc 4 0)],HM⟩)]),(16,.cut [(.normal,J6),Jk]),(26,.draw (od [1,3,5,7,9,11,12,15]) []),(28,.draw (od [1,3,5,7,9,11,13,15,17,19,21,23,25,27,29,31,33,35,37,39,41,43,45,47,49,51,52]) [Jk,(.normal,⟨[(0,.pc 0 0),(2,.sl 35),(4,.pc 3 0),(6,.pc 4 0),(7,ii),(9,ii),(11,.sl 35),(12,ii),(13,ii)],HM⟩)]),(29,.cut [(.normal,J6)]),(31,.draw (od [1,3,5,7,9,11,13,15,17,19,21,23,25,27,29,31,33,35,37,39,41,42,44,47,49,50]) [])])
theorem K66:P66.OK prog:=kA (za K62 (za K55 (za K65 zf))) (by kernel_rfl)
def P67:=spA true [P51,P54,P55,P59,P62,P64,P66] 48 1 f48 ⟨[(0,.sl 80),(1,.val 35)],[]⟩ [J4,(.ret,⟨[(0,.agg [.str,ii,ii,.row 0,.row 1])],[.row 214,.row 275]⟩)] (hfind [(7,.draw (od [1,3,5,11,6,9,12]) []),(14,.loop JW [J4,(.exit 0,⟨[(0,.sl 80),(3,.pc 0 0),(4,.pc 1 0),(5,.sl 35),(6,.row 2),(7,.pc 3 0)],[c5,c10,.row 35,c50,.row 214]⟩)]),(22,.cut [J4,(.normal,JW)]),(26,.draw (od [1,3,5,7,9,15,10,13,16]) []),(32,.cut [J4,(.normal,JJ)]),(34,.draw (od [1,3,5,7,9,11,13,14,17]) []),(35,.draw (od [1,3,5,7,9,11,13,15,17,19,21,22]) [J4,(.normal,JJ)]),(45,.loop ⟨[(4,.pc 0 0),(5,.sl 35),(7,.pc 1 0),(91,.sl 35),(92,ii),(93,ii)],[c10,c31,.row 214,.row 275]⟩ [J4,(.exit 2,⟨[(4,.pc 0 0),(7,.pc 1 0)],[c10,c31,.row 214,.row 275]⟩)])])
theorem K67:P67.OK prog:=kA (za K51 (za K54 (za K55 (za K59 (za K62 (za K64 (za K66 zf))))))) (by kernel_rfl)
def I68:Sig:=⟨[(0,.pc 0 0),(1,.pc 1 0),(2,.pc 2 0),(3,.ifc 151 (.agg [ii,ii]))],H9⟩
def O68:List (XK×Sig):=[(.ret,⟨[],[c28,c11,c11,.row 80]⟩)]
def H68:Nat->G4 Hint:=hfind [(5,.draw (od [1,3,5,7,8,10,12]) [])]
def F68 (x:I68.ty CC):G4 (zi CC O68):=zbo ⟨false⟩ [] lpO prog f47 0 I68 O68 H68 x
def P68:Spec CC:=⟨47,0,I68,O68,F68⟩
theorem K68:Spec.OKD prog P68:=vx zf ZK ZJ H68 (by kernel_rfl) (by kernel_rfl) (by kernel_rfl) fun x=>rfl
def I69:Sig:=⟨Ks,H9⟩
def O69:List (XK×Sig):=[(.ret,⟨[],H9⟩)]
def H69:Nat->G4 Hint:=hfind []
def F69 (x:I69.ty CC):G4 (zi CC O69):=zbo ⟨false⟩ [] lpO prog f47 0 I69 O69 H69 x
def P69:Spec CC:=⟨47,0,I69,O69,F69⟩
theorem K69:Spec.OKD prog P69:=vx zf ZK ZJ H69 (by kernel_rfl) (by kernel_rfl) (by kernel_rfl) fun x=>rfl
def I70:Sig:=JV
def O70:List (XK×Sig):=[(.ret,⟨Kb,[.row 80]⟩)]
def H70:Nat->G4 Hint:=hfind [(3,.loop ⟨[(1,.pc 0 0),(2,.pc 1 0),(3,.pc 2 0),(4,.pc 3 0),(7,.clo 47 [.pc 1 0,.pc 2 0,.pc 3 0])],[c5,c28,c11,c11]⟩ []),(8,.loop ⟨[(2,.pc 1 0),(3,.pc 2 0),(4,.pc 3 0),(9,.sl 35),(10,ii),(11,ii)],[c5,c40,c11,c11,.row 80]⟩ [(.pan (.ifc 151 (.agg [ii,ii])),KD),(.exit 0,KD)]),(21,.cut JD),(22,.draw (od [3,5,8198,8200,8,0,10,12,6,8,10,12]) JD)]
def F70 (x:I70.ty CC):G4 (zi CC O70):=zgh ⟨false⟩ [P67] (P69) (P68) lpO prog f18 3 I70 O70 H70 x
def P70:Spec CC:=⟨18,3,I70,O70,F70⟩
theorem K70:Spec.OK prog P70:=zgi (za K67 zf) K69 K68 ZK ZJ H70 (by kernel_rfl) (by kernel_rfl) (by kernel_rfl) fun x=>rfl
def P71:=spA false [P63,P54] 100 2 f100 KL [(.ret,⟨[(0,.val 47),(1,ii)],[]⟩)] (hfind [(7,.cut [(.ret,⟨[(4,.pc 0 0),(5,ii)],[c8]⟩),(.normal,⟨Hx,[c8,c8]⟩)])])
theorem K71:P71.OK prog:=kA (za K63 (za K54 zf)) (by kernel_rfl)
def P72:=spA false [] 101 1 f101 ⟨Hy,[c8]⟩ [(.ret,HK)] (hfind [])
theorem K72:P72.OK prog:=kA zf (by kernel_rfl)
def P73:=spA false [P72] 76 1 f76 KV [(.ret,HB)] (hfind [(6,.loop ⟨[(0,.row 0),(1,.clo 101 [.pc 1 0]),(7,ii),(8,ii)],[.row 47,c8]⟩ KP)])
theorem K73:P73.OK prog:=kA (za K72 zf) (by kernel_rfl)
def P74:=spA false [P73] 41 1 f41 KV [(.ret,H8)] (hfind [])
theorem K74:P74.OK prog:=kA (za K73 zf) (by kernel_rfl)
def P75:=spA false [] 102 1 f102 ⟨[(0,.val 47),(1,.sl 80)],[]⟩ Jr (hfind [(3,.cut Jb)])
theorem K75:P75.OK prog:=kA zf (by kernel_rfl)
def P76:=spA false [] 103 1 f103 ⟨Hy,[c8]⟩ [(.ret,HK)] (hfind [(3,.cut [(.normal,⟨[(3,.bool)],[c8]⟩)])])
theorem K76:P76.OK prog:=kA zf (by kernel_rfl)
def P77:=spA false [P76] 76 1 f76 KU [(.ret,HB)] (hfind [(6,.loop ⟨[(0,.row 0),(1,.clo 103 [.pc 1 0]),(7,ii),(8,ii)],[.row 47,c8]⟩ KP)])
theorem K77:P77.OK prog:=kA (za K76 zf) (by kernel_rfl)
def P78:=spA false [P77] 41 1 f41 KU [(.ret,H8)] (hfind [])
theorem K78:P78.OK prog:=kA (za K77 zf) (by kernel_rfl)
def P79:=spA false [P71,P74,P75,P78] 49 3 f49 KL [(.ret,⟨[(0,.val 49),(1,ii),(2,ii)],[]⟩)] (hfind [(11,.draw (od [1,3,5,6,9,11]) []),(18,.loop ⟨[(1,.sl 80),(2,.pc 0 0),(4,.pc 1 0),(7,.pc 2 0),(8,ii),(29,.sl 35),(30,ii),(31,ii)],[c5,c17,c34,.row 47]⟩ [Jy,(.exit 0,⟨[(1,.sl 80),(2,.pc 0 0),(4,.pc 1 0),(7,.pc 2 0),(8,ii)],[c5,c17,c34,.row 47]⟩)]),(37,.cut [Jy,(.normal,Kc)]),(39,.draw (od [1,3,5,6,9,11]) []),(43,.cut [Jy,(.normal,Kc)]),(45,.draw (od [1,3,5,7,9,11,13,14,17,19]) []),(48,.cut [(.normal,⟨[(1,.sl 80),(2,.pc 0 0),(4,.pc 1 0),(7,.pc 2 0),(8,ii),(10,.pc 3 0),(11,.pc 4 0),(29,.sl 35),(30,ii),(31,ii),(65,.bool)],[c5,c17,c45,c5,c8,.row 47]⟩)]),(51,.draw (od [1,3,5,7,9,11,12,15,17]) []),(65,.draw (od [1,3,5,7,9,11,13,15,16,19,21]) [])])
theorem K79:P79.OK prog:=kA (za K71 (za K74 (za K75 (za K78 zf)))) (by kernel_rfl)
def P80:=spA false [P79] 19 3 f19 KL [(.ret,⟨Kb,[.row 49]⟩)] (hfind [(8,.loop KE [Ki,(.exit 0,⟨[(7,.row 0)],[.row 49]⟩)]),(16,.cut [(.normal,KE),Ki])])
theorem K80:P80.OK prog:=kA (za K79 zf) (by kernel_rfl)
def P81:=spA false [] 141 1 f141 Kk Jr (hfind [(3,.cut Kg)])
theorem K81:P81.OK prog:=kA zf (by kernel_rfl)
def P82:=spA false [] 142 1 f142 Kk Jr (hfind [(3,.cut Kg)])
theorem K82:P82.OK prog:=kA zf (by kernel_rfl)
def P83:=spA false [] 143 1 f143 JP Jr (hfind [(9,.cut Jb),(13,.cut Jb),(17,.cut Jb),(21,.cut Jb),(25,.cut Jb),(29,.cut Jb),(33,.cut Jb),(37,.cut Jb),(41,.cut Jb),(45,.cut Jb),(49,.cut Jb),(53,.cut Jb),(57,.cut Jb),(61,.cut Jb),(65,.cut Jb),(69,.cut Jb),(73,.cut Jb),(77,.cut Jb),(81,.cut Jb)])
theorem K83:P83.OK prog:=kA zf (by kernel_rfl)
def P84:=spA false [] 144 1 f144 HD Jw (hfind [(7,.cut [(.normal,⟨[(0,.str),(1,ii),(5,.str)],[]⟩)]),(12,.cut [(.normal,⟨[(0,.str),(1,ii),(25,.bool)],[]⟩)]),(25,.cut Js),(29,.cut Js),(33,.cut Js),(37,.cut Js),(41,.cut Js),(45,.cut Js),(49,.cut Js),(53,.cut Js),(57,.cut Js),(61,.cut Js),(65,.cut Js),(69,.cut Js),(73,.cut Js)])
theorem K84:P84.OK prog:=kA zf (by kernel_rfl)
def P85:=spA false [P81,P82,P83,P84] 104 2 f104 HD [(.ret,⟨[(0,.val 163),(1,ii)],[]⟩)] (hfind [(13,.cut [(.ret,H4),(.normal,⟨[(0,.str),(1,ii),(4,.pc 0 0),(6,.pc 1 0),(7,ii),(9,.bool)],[c21,c21]⟩)]),(16,.loop KJ [(.exit 0,KJ)]),(30,.cut [(.normal,⟨[(0,.str),(1,ii),(4,.pc 0 0),(6,.pc 1 0),(7,ii),(47,.bool)],[c21,c21]⟩)]),(52,.cut [(.normal,⟨Hx,[c21,c21]⟩)]),(62,.cut [(.ret,H4),(.normal,⟨[(0,.str),(1,ii),(4,.pc 0 0),(6,.pc 1 0)],[c21,c21]⟩)]),(69,.loop J2 [(.exit 2,J2)]),(88,.cut [(.normal,J2)]),(94,.cut [(.normal,J2)]),(103,.cut [(.normal,⟨[(0,.str),(1,ii),(4,.pc 0 0),(6,.pc 1 0),(7,ii),(13,ii),(14,.bool),(16,.bool)],[c21,c21]⟩)]),(108,.cut [(.normal,⟨[(0,.str),(1,ii),(4,.pc 0 0),(6,.pc 1 0),(7,ii),(13,ii),(115,.bool)],[c21,c21]⟩)])])
theorem K85:P85.OK prog:=kA (za K81 (za K82 (za K83 (za K84 zf)))) (by kernel_rfl)
def P86:=spA false [P85] 50 3 f50 JP [(.ret,⟨Kb,[.row 163]⟩)] (hfind [(16,.loop ⟨JS,[.row 163]⟩ [JF,(.exit 0,⟨[(0,.str),(5,.row 0)],[.row 163]⟩)]),(23,.cut [(.normal,⟨JS,[.row 163]⟩),JF]),(26,.cut [(.normal,⟨[(0,.str),(5,.row 0),(6,ii),(25,.bool)],[.row 163]⟩)]),(38,.loop ⟨JS,[.row 163]⟩ [(.exit 2,⟨JS,[.row 163]⟩)]),(41,.cut [(.normal,⟨[(0,.str),(5,.row 0),(6,ii),(41,.bool)],[.row 163]⟩)])])
theorem K86:P86.OK prog:=kA (za K85 zf) (by kernel_rfl)
def P87:=spA false [] 105 1 f105 ⟨Kh,[c3,.row 163]⟩ [(.ret,H6)] (hfind [(3,.draw (od [1,3,5,7,9,11,13,15,17,19,21,23]) []),(5,.draw (od [1,3,5,7,9,11,13,15,17,19,21,23,25,27,29,31,33,35,37,39,41,43,45,47,49,51,53,55,57]) [(.normal,⟨[(4,.bool)],[c3,.row 163]⟩)])])
theorem K87:P87.OK prog:=kA zf (by kernel_rfl)
def P88:=spA false [P87] 51 1 f51 ⟨Kh,[c3,.row 163]⟩ [(.ret,H6)] (hfind [(7,.cut [(.normal,⟨[(5,.bool)],[c3,.row 163]⟩)])])
theorem K88:P88.OK prog:=kA (za K87 zf) (by kernel_rfl)
def P89:=spA false [] 108 0 f108 Kt [(.ret,KO)] (hfind [(2,.cut [(.normal,KO)]),(5,.draw (od [1,3,5,7,9,11,13,15,17,19,21,23,25,27,28]) [])])
theorem K89:P89.OK prog:=kA zf (by kernel_rfl)
def P90:=spA false [P89] 106 1 f106 Jl [(.ret,⟨Hb,[c3,.row 163]⟩)] (hfind [(3,.draw (od [1,3,5,7,9,11,13,15,17,19,20,22]) []),(6,.cut [(.normal,⟨[(0,.pc 0 0),(2,.pc 2 0),(3,.pc 3 0),(23,.bool)],[c3,.row 163,c1,c21]⟩)])])
theorem K90:P90.OK prog:=kA (za K89 zf) (by kernel_rfl)
def P91:=spA false [P88,P89] 53 0 f53 ⟨Kh,[c3,.row 163]⟩ [(.ret,KO)] (hfind [(4,.cut [(.normal,KO)])])
theorem K91:P91.OK prog:=kA (za K88 (za K89 zf)) (by kernel_rfl)
def P92:=spA false [P88,P91,P90] 107 1 f107 Jl JO (hfind [(3,.draw (od [1,3,5,7,9,11,13,15,17,19,21,23,25,27,29,31,33,35,37,39,41,43,45,46,48]) []),(19,.cut HE),(26,.cut HE)])
theorem K92:P92.OK prog:=kA (za K88 (za K91 (za K90 zf))) (by kernel_rfl)
def P93:=spA false [P89] 170 1 f170 Jl [(.ret,⟨[(0,ii)],[c3,.row 163]⟩)] (hfind [(3,.draw (od [1,3,5,7,9,11,13,15,17,19,20,22]) []),(6,.cut [(.normal,⟨[(0,.pc 0 0),(3,.pc 2 0),(23,.bool)],[c3,.row 163,c21]⟩)])])
theorem K93:P93.OK prog:=kA (za K89 zf) (by kernel_rfl)
def P94:=spA false [P88,P93] 173 1 f173 ⟨[(0,.pc 0 0),(1,.val 86)],[c3,.row 163]⟩ JO (hfind [(19,.cut [(.normal,⟨[(3,.pc 2 0),(4,.pc 3 0)],[c3,.row 163,c7,c1]⟩)])])
theorem K94:P94.OK prog:=kA (za K88 (za K93 zf)) (by kernel_rfl)
def P95:=spA false [P93,P88,P90,P94] 146 1 f146 Jl JO (hfind [(3,.draw (od [1,3,5,7,9,11,13,15,17,19,21,23]) []),(6,.draw (od [1,3,5,7,9,11,13,15,17,19,21,23]) [])])
theorem K95:P95.OK prog:=kA (za K93 (za K88 (za K90 (za K94 zf)))) (by kernel_rfl)
def P96:=spA false [P88,P89] 147 1 f147 Jl [(.ret,⟨[(0,.str)],[c3,.row 163]⟩)] (hfind [(8,.loop ⟨[(0,.pc 0 0),(3,.row 2),(4,ii)],[c3,.row 163,.row 9]⟩ [(.ret,⟨[(2,.str)],[c3,.row 163]⟩),(.exit 0,Jl)])])
theorem K96:P96.OK prog:=kA (za K88 (za K89 zf)) (by kernel_rfl)
def P97:=spA false [P95,P96] 112 1 f112 Jl Jg (hfind [])
theorem K97:P97.OK prog:=kA (za K95 (za K96 zf)) (by kernel_rfl)
def P98:=spA false [P91,P88,P95] 171 1 f171 Jl [(.ret,⟨[(0,.row 2)],[c3,.row 163,.row 86]⟩)] (hfind [(8,.cut [(.normal,⟨[(0,.pc 0 0),(18,.bool)],[c3,.row 163]⟩)]),(20,.loop ⟨[(0,.pc 0 0),(4,.pc 2 0),(5,.row 3)],[c3,.row 163,c7,.row 86]⟩ [(.exit 0,⟨[(0,.pc 0 0),(5,.row 2)],[c3,.row 163,.row 86]⟩)])])
theorem K98:P98.OK prog:=kA (za K91 (za K88 (za K95 zf))) (by kernel_rfl)
def P99:=spA false [P88,P93,P90,P95,P87,P98,P91,P94] 188 1 f188 Jl JO (hfind [(3,.draw (od [1,3,5,7,9,11,13,15,17,19,21,23,24,26]) []),(47,.cut HE),(60,.draw (od [1,3,5,7,9,11,13,15,17,19,21,23]) []),(106,.draw (od [1,3,5,7,9,11,13,15,17,19,21,23,25,27,29,31,33,35,37]) [(.normal,⟨[(0,.pc 0 0),(2,.pc 2 0),(3,.pc 3 0),(14,.bool),(119,.bool)],HG⟩)]),(117,.cut [(.normal,⟨[(2,.pc 2 0),(16,.pc 3 0)],Jz⟩)])])
theorem K99:P99.OK prog:=kA (za K88 (za K93 (za K90 (za K95 (za K87 (za K98 (za K91 (za K94 zf)))))))) (by kernel_rfl)
def zmP:=spA false [P90,P87,P98,P88,P95,P91,P99] 172 1 f172 Jl Jg (hfind [])
theorem zxO:zmP.OK prog:=kA (za K90 (za K87 (za K98 (za K88 (za K95 (za K91 (za K99 zf))))))) (by kernel_rfl)
def zqR:Sig:=⟨[(0,.pc 0 0),(1,ii),(2,ii)],[c3,.row 163]⟩
def zqS:List (XK×Sig):=Jg
def zve:Nat->G4 Hint:=hfind []
def zqT:Sig:=Jl
def zqU:List (XK×Sig):=Jg
def zvf:Nat->G4 Hint:=hfind [(3,.draw (od [1,3,5,7,9,11,13,15,17,19,21,23]) []),(8,.draw (od [1,3,5,7,9,11,13,15,17,19,21,23]) []),(9,.cut [(.normal,⟨[(0,.pc 0 0),(2,.pc 2 0),(3,ii),(4,.str)],[c3,.row 163,c1]⟩)]),(10,.draw (od [1,3,5,7,9,11,13,15,17,19,21,23]) []),(20,.cut [(.ret,Hj),Jh]),(32,.cut [(.normal,⟨[(2,.pc 2 0),(5,.pc 3 0),(6,.pc 4 0)],[c3,.row 163,c1,c52,.cell [ii,.str,ii,ii,.row 6],.row 86,.row 86]⟩)]),(50,.cut [Jh]),(61,.cut [(.normal,⟨[(0,.pc 0 0),(2,.pc 2 0),(4,.str),(5,.pc 3 0),(49,.str),(108,.bool)],HG⟩)]),(64,.cut [Jh]),(74,.cut [(.normal,⟨[(0,.pc 0 0),(2,.pc 2 0),(5,.pc 3 0),(9,.pc 4 0)],[c3,.row 163,c1,c1,c1]⟩)]),(86,.cut [Jh]),(95,.cut [Jh]),(102,.cut [Jh]),(108,.cut [Jh])]
def Xf:Sig:=Jl
def Xg:List (XK×Sig):=Jg
def zvg:Nat->G4 Hint:=hfind [(3,.draw (od [1,3,5,7,9,11,13,15,17,19,21,23,24,26]) []),(8,.cut [(.normal,⟨[(0,.pc 0 0),(2,.pc 2 0),(3,.pc 3 0),(28,.bool)],HG⟩)]),(9,.cut HE),(18,.loop Hh [(.exit 0,Hh)])]
def zdj (h:Xf.ty CC->G4 (zi CC Xg)):Spec CC:=⟨109,1,Xf,Xg,h⟩
def zhE (h:Xf.ty CC->G4 (zi CC Xg)) (x:zqR.ty CC):G4 (zi CC zqS):=X2 ⟨false⟩ [P97,zdj h] lpO prog f169 1 zqR zqS zve x
def zsz (h:Xf.ty CC->G4 (zi CC Xg)):Spec CC:=⟨169,1,zqR,zqS,zhE h⟩
theorem zxb {h:Xf.ty CC->G4 (zi CC Xg)}(hh:Spec.OK prog (zdj h)):Spec.OK prog (zsz h):=yF (za K97 (za hh zf)) ZK ZJ zve (by kernel_rfl) (by kernel_rfl) (by kernel_rfl) fun x=>rfl
def zhF (h:Xf.ty CC->G4 (zi CC Xg)) (x:zqT.ty CC):G4 (zi CC zqU):=X2 ⟨false⟩ [zsz h,P88,zdj h,P90,P91,P93,P87,P95,P98,zmP] lpO prog f145 1 zqT zqU zvf x
def zsA (h:Xf.ty CC->G4 (zi CC Xg)):Spec CC:=⟨145,1,zqT,zqU,zhF h⟩
theorem zxc {h:Xf.ty CC->G4 (zi CC Xg)}(hh:Spec.OK prog (zdj h)):Spec.OK prog (zsA h):=yF (za (zxb hh) (za K88 (za hh (za K90 (za K91 (za K93 (za K87 (za K95 (za K98 (za zxO zf)))))))))) ZK ZJ zvf (by kernel_rfl) (by kernel_rfl) (by kernel_rfl) fun x=>rfl
def zhG (h:Xf.ty CC->G4 (zi CC Xg)) (x:Xf.ty CC):G4 (zi CC Xg):=X2 ⟨false⟩ [P87,P89,P91,P88,zsA h] lpO prog f109 1 Xf Xg zvg x
def zxd (h:Xf.ty CC->G4 (zi CC Xg)):Spec CC:=⟨109,1,Xf,Xg,zhG h⟩
theorem zxe {h:Xf.ty CC->G4 (zi CC Xg)}(hh:Spec.OK prog (zdj h)):Spec.OK prog (zxd h):=yF (za K87 (za K89 (za K91 (za K88 (za (zxc hh) zf))))) ZK ZJ zvg (by kernel_rfl) (by kernel_rfl) (by kernel_rfl) fun x=>rfl
def zfg:Nat->Xf.ty CC->G4 (zi CC Xg)
  |0=>fun _=>none
  |k+1=>zhG (zfg k)
theorem zsB:∀ k,Spec.OK prog (zdj (zfg k))
  |0=>⟨f109,by kernel_rfl,by kernel_rfl,by kernel_rfl,fun x r h=>by cases h⟩
  |k+1=>zxe (zsB k)
def zvh (x:Xf.ty CC):G4 (zi CC Xg):=zfg 100000 x
def zvi:Spec CC:=⟨109,1,Xf,Xg,zvh⟩
theorem zxP:Spec.OK prog zvi:=zsB 100000
def zqV:=spA false [P90,P91,P88,P92,P87,P89,zvi] 52 1 f52 Kt Jg (hfind [(14,.loop KT [(.exit 0,Ko)]),(17,.cut [(.normal,⟨[(0,.pc 0 0),(4,.pc 2 0),(5,.pc 3 0),(6,.bool),(31,.bool)],Jz⟩)]),(38,.cut [(.normal,KT)]),(44,.draw (od [1,3,5,7,9,11,13,15,17,19,21,23,24,26]) []),(50,.cut [(.normal,⟨Hu,[c3,.row 163,c1,c52,c7,.row 86]⟩)]),(56,.cut [(.normal,⟨Hu,[c3,.row 163,c1,c52,c1,.row 86]⟩)])])
theorem zxQ:zqV.OK prog:=kA (za K90 (za K91 (za K88 (za K92 (za K87 (za K89 (za zxP zf))))))) (by kernel_rfl)
def zqW:=spA false [P88,P90,P89] 110 1 f110 Jl JO (hfind [(3,.draw (od [1,3,5,7,9,11,13,15,17,19,21,23,25,27,29,31,33,35,37,39,41,43,45,46,48]) []),(30,.loop ⟨[(0,.pc 0 0),(2,.pc 2 0),(3,.pc 3 0),(6,.row 4),(7,ii)],[c3,.row 163,c1,c1,.row 9]⟩ [(.ret,Hj),(.exit 0,J3)])])
theorem zxR:zqW.OK prog:=kA (za K88 (za K90 (za K89 zf))) (by kernel_rfl)
def zqX:=spA false [P90,P88,P91] 111 1 f111 Jl Jg (hfind [(11,.cut [(.normal,⟨[(2,.pc 2 0),(3,.pc 3 0)],Jz⟩)])])
theorem zxS:zqX.OK prog:=kA (za K90 (za K88 (za K91 zf))) (by kernel_rfl)
def zqY:=spA false [P90,zqW,P88,zqX,P91,P97] 54 1 f54 Kt Jg (hfind [(16,.loop KR [(.exit 0,Ko)]),(32,.cut [(.normal,KR)]),(39,.loop ⟨[(0,.pc 0 0),(4,.pc 2 0),(5,.pc 3 0),(9,.bool)],Jz⟩ [(.exit 2,Ko)])])
theorem zxT:zqY.OK prog:=kA (za K90 (za zxR (za K88 (za zxS (za K91 (za K97 zf)))))) (by kernel_rfl)
def v8:Sig:=HI
def Va:List (XK×Sig):=Jw
def zvj:Nat->G4 Hint:=hfind [(8,.loop ⟨[(1,.pc 0 0),(3,ii),(4,ii)],[c7]⟩ HN)]
def zmQ (h:v8.ty CC->G4 (zi CC Va)):Spec CC:=⟨55,1,v8,Va,h⟩
def zhH (h:v8.ty CC->G4 (zi CC Va)) (x:v8.ty CC):G4 (zi CC Va):=X2 ⟨false⟩ [zmQ h] lpO prog f55 1 v8 Va zvj x
def zxf (h:v8.ty CC->G4 (zi CC Va)):Spec CC:=⟨55,1,v8,Va,zhH h⟩
theorem zxg {h:v8.ty CC->G4 (zi CC Va)}(hh:Spec.OK prog (zmQ h)):Spec.OK prog (zxf h):=yF (za hh zf) ZK ZJ zvj (by kernel_rfl) (by kernel_rfl) (by kernel_rfl) fun x=>rfl
def zfh:Nat->v8.ty CC->G4 (zi CC Va)
  |0=>fun _=>none
  |k+1=>zhH (zfh k)
theorem zsC:∀ k,Spec.OK prog (zmQ (zfh k))
  |0=>⟨f55,by kernel_rfl,by kernel_rfl,by kernel_rfl,fun x r h=>by cases h⟩
  |k+1=>zxg (zsC k)
def zvk (x:v8.ty CC):G4 (zi CC Va):=zfh 100000 x
def zvl:Spec CC:=⟨55,1,v8,Va,zvk⟩
theorem zxU:Spec.OK prog zvl:=zsC 100000
def zqZ:=spA false [P86,P88,zqV,P91,zqY,zvl] 20 3 f20 JP [(.ret,⟨[(0,.val 86),(1,ii),(2,ii)],[]⟩)] (hfind [(18,.loop J9 [(.exit 0,J9)]),(21,.draw (od [1,3,5,7,9,11,13,15,17,19,21,23,25,27,29,31,33,35,37]) [(.normal,⟨[(2,.pc 0 0),(8,.pc 1 0),(9,.pc 2 0),(48,.bool)],[c1,c41,c9,.row 163,.row 86]⟩)]),(25,.cut [(.normal,J9)]),(27,.draw (od [1,3,5,7,9,11,13,15,17,19,21,23]) []),(44,.cut [(.normal,J9)]),(54,.draw (od [1,3,5,7,9,11,13,15,17,18,21,23]) [])])
theorem zxV:zqZ.OK prog:=kA (za K86 (za K88 (za zxQ (za K91 (za zxT (za zxU zf)))))) (by kernel_rfl)
def zmR:=spA false [] 113 1 f113 ⟨[(0,.val 86),(1,ii)],[]⟩ [(.ret,⟨[(0,.row 0)],[.row 86]⟩)] (hfind [(8,.loop KQ [(.exit 0,⟨[(5,.row 0)],[.row 86]⟩)]),(19,.cut [(.normal,KQ)])])
theorem zxW:zmR.OK prog:=kA zf (by kernel_rfl)
def zjI:=spA false [] 114 1 f114 ⟨[(0,.sl 171),(1,.str)],[]⟩ Jw (hfind [(6,.loop ⟨[(0,.sl 171),(1,.str),(5,ii)],[]⟩ Kr)])
theorem zvm:zjI.OK prog:=kA zf (by kernel_rfl)
def zmS:=spA false [] 115 1 f115 ⟨[(0,.sl 86),(1,.str)],[]⟩ Jw (hfind [(6,.loop ⟨[(0,.sl 86),(1,.str),(5,ii)],[]⟩ Kr),(16,.cut [(.normal,⟨[(0,.sl 86),(1,.str),(5,ii),(27,.bool)],[]⟩)])])
theorem zxX:zmS.OK prog:=kA zf (by kernel_rfl)
def zmT:=spA false [] 116 1 f116 He [(.ret,⟨[(0,.row 0)],[.row 231]⟩)] (hfind [(7,.cut KC),(12,.cut [(.normal,⟨[(0,.str),(1,ii),(2,ii),(3,ii),(4,ii),(11,.row 0),(29,.bool)],[.row 231]⟩)]),(13,.cut KC),(19,.cut [(.normal,⟨[(11,.row 0)],[.row 231]⟩)])])
theorem zxY:zmT.OK prog:=kA zf (by kernel_rfl)
def zq0:=spA false [zmR,zjI,zmS,zmT] 56 3 f56 ⟨[(0,.row 0),(1,.val 86)],[.row 171]⟩ [(.ret,⟨[(0,.val 171),(1,ii),(2,ii)],[.row 171]⟩)] (hfind [(17,.draw (od [1,3,5,6,9,11]) []),(25,.draw (od [1,3,5,6,9,11]) []),(32,.loop Kq [Jq,(.exit 0,⟨[(0,.row 0),(4,.pc 1 0),(7,.row 2),(8,.row 3),(9,.pc 4 0),(10,.pc 5 0)],JA⟩)]),(40,.cut [Jq,(.normal,Kq)]),(47,.loop ⟨[(0,.row 0),(4,.pc 1 0),(7,.row 2),(8,.row 3),(9,.pc 4 0),(10,.pc 5 0),(12,ii),(13,.pc 6 0),(14,ii)],Ka⟩ [Jq,(.exit 2,⟨[(0,.row 0),(4,.pc 1 0),(7,.row 2),(8,.row 3),(9,.pc 4 0),(10,.pc 5 0),(12,ii),(13,.pc 6 0)],Ka⟩)]),(57,.draw (od [1,3,5,7,9,11,13,15]) []),(60,.draw (od [1,3,5,6,9,11]) []),(69,.cut [Jq,(.normal,⟨[(0,.row 0),(4,.pc 1 0),(7,.row 2),(8,.row 3),(9,.pc 4 0),(10,.pc 5 0),(12,ii),(13,.pc 6 0),(15,ii)],Ka⟩)]),(73,.cut [(.normal,⟨[(0,.row 0),(4,.pc 1 0),(7,.row 2),(8,.row 3),(9,.pc 4 0),(10,.pc 5 0),(12,ii),(13,.pc 6 0),(15,ii),(93,.bool)],Ka⟩)]),(76,.draw (od [1,3,5,6,9,11]) []),(90,.cut [J7,Jq]),(95,.cut [(.normal,⟨[(0,.row 0),(4,.pc 1 0),(7,.row 2),(8,.row 3),(9,.pc 4 0),(10,.pc 5 0),(16,ii),(107,.str),(111,.bool)],JA⟩)]),(98,.cut [Jq,J7]),(104,.cut [(.normal,⟨[(4,.pc 1 0),(7,.row 2),(8,.row 3),(9,.pc 4 0),(10,.pc 5 0)],JA⟩)]),(114,.draw (od [1,3,5,6,9,11]) []),(120,.cut [Jq,J7]),(130,.draw (od [1,3,5,6,9,11]) []),(138,.draw (od [1,3,5,6,9,11]) []),(142,.cut [(.normal,⟨[(4,.pc 1 0),(7,.row 2),(8,.row 3),(9,.pc 4 0),(10,.pc 5 0),(16,ii),(167,.bool)],JA⟩)]),(145,.draw (od [1,3,5,6,9,11]) []),(153,.loop JM [JX,(.exit 5,⟨[(4,.pc 1 0),(10,.pc 2 0)],[.row 171,c10,.cell [.str,ii,ii,.row 3,.row 4],.row 228,.row 231]⟩)]),(168,.loop Kl [JX,(.exit 7,⟨[(4,.pc 1 0),(7,.row 2),(8,.row 3),(10,.pc 4 0),(16,ii),(17,ii),(18,.row 5)],JH⟩)]),(176,.cut [(.normal,Kl),JX]),(189,.cut [(.normal,⟨[(4,.pc 1 0),(7,.row 2),(8,.row 3),(10,.pc 4 0),(16,ii),(17,ii),(18,.row 5),(19,ii),(21,ii),(202,.bool)],JH⟩)]),(192,.draw (od [1,3,5,7,9,11,12,15,17]) []),(198,.draw (od [1,3,5,7,9,11,13,15,17,19,21,23,25,27,29,31,33,35,37,39,41,43,45,47,49,51,53,54,57]) []),(202,.loop ⟨[(4,.pc 1 0),(7,.row 2),(8,.row 3),(10,.pc 4 0),(16,ii),(17,ii),(22,.row 5),(23,ii)],[.row 171,c10,.row 86,.row 86,c32,.row 231,.row 228,.row 231]⟩ [(.exit 9,JM)]),(211,.draw (od [1,3,5,7,9,11,12,14,17,18]) [])])
theorem zxZ:zq0.OK prog:=kA (za zxW (za zvm (za zxX (za zxY zf)))) (by kernel_rfl)
def zq1:=spA false [zq0] 21 3 f21 HI [(.ret,⟨Kb,[.row 171]⟩)] (hfind [(8,.loop Ha [JF,(.exit 0,⟨[(5,.row 0)],[.row 171]⟩)]),(16,.cut [(.normal,Ha),JF])])
theorem zx0:zq1.OK prog:=kA (za zxZ zf) (by kernel_rfl)
def zq2:=spA false [zjI] 117 2 f117 KH [(.ret,⟨[(0,.val 175),(1,.bool)],[]⟩)] (hfind [(10,.cut J5),(14,.cut J5),(18,.cut J5),(22,.cut J5),(28,.cut [(.ret,⟨[(4,.pc 0 0),(5,.bool)],[c12]⟩),(.normal,⟨Hx,[c12,c12]⟩)])])
theorem zx1:zq2.OK prog:=kA (za zvm zf) (by kernel_rfl)
def zq3:=spA false [zq2] 57 3 f57 KH [(.ret,⟨[(0,.val 177),(1,ii),(2,ii)],[]⟩)] (hfind [(11,.draw (od [1,3,5,6,9,11]) []),(18,.loop Km [Jy,(.exit 0,⟨[(1,.sl 171),(2,.pc 0 0),(4,.pc 1 0),(7,.pc 2 0),(8,ii)],[c7,c17,c34,.row 175]⟩)]),(26,.cut [Jy,(.normal,Km)]),(33,.loop ⟨[(1,.sl 171),(2,.pc 0 0),(4,.pc 1 0),(7,.pc 2 0),(8,ii),(9,ii),(10,.pc 3 0),(11,ii)],[c7,c17,c44,c7,.row 175]⟩ [Jy,(.exit 2,⟨[(1,.sl 171),(2,.pc 0 0),(4,.pc 1 0),(7,.pc 2 0),(8,ii),(9,ii),(10,.pc 3 0)],[c7,c17,c44,c7,.row 175]⟩)]),(43,.draw (od [1,3,5,7,9,11,13,15,17]) []),(46,.draw (od [1,3,5,6,9,11]) []),(57,.draw (od [1,3,5,7,9,11,12,15,17]) []),(64,.loop ⟨[(1,.sl 171),(2,.pc 0 0),(4,.pc 1 0),(7,.pc 2 0),(8,ii),(9,ii),(10,.pc 3 0),(12,.pc 4 0),(14,ii)],Hm⟩ [Jy,(.exit 4,⟨[(1,.sl 171),(2,.pc 0 0),(4,.pc 1 0),(7,.pc 2 0),(8,ii),(9,ii),(10,.pc 3 0),(12,.pc 4 0)],Hm⟩)]),(76,.cut [(.normal,⟨[(1,.sl 171),(2,.pc 0 0),(4,.pc 1 0),(7,.pc 2 0),(8,ii),(9,ii),(10,.pc 3 0),(12,.pc 4 0),(14,ii),(107,.bool)],Hm⟩)]),(79,.draw (od [1,3,5,7,9,11,12,15,17]) []),(94,.draw (od [1,3,5,7,9,11,13,14,17,19]) [])])
theorem zx2:zq3.OK prog:=kA (za zx1 zf) (by kernel_rfl)
def zq4:=spA false [zq3] 22 3 f22 KH [(.ret,⟨Kb,[.row 177]⟩)] (hfind [(8,.loop KK [Ki,(.exit 0,⟨[(7,.row 0)],[.row 177]⟩)]),(16,.cut [(.normal,KK),Ki])])
theorem zx3:zq4.OK prog:=kA (za zx2 zf) (by kernel_rfl)
def zmU:=spA false [P50,P70,P80,zqZ,zq1,zq4] 6 2 f6 JP [(.ret,⟨[(0,.val 30),(1,.bool)],[]⟩)] (hfind [(28,.loop JI [(.exit 0,⟨[(2,.pc 0 0),(9,ii),(10,.row 1),(12,ii),(19,.row 2),(22,.pc 3 0)],[c19,.row 49,.row 177,.cell [.row 4,.sl 80,.row 1,.row 5,.sl 171,.row 2],.row 35,.row 86]⟩)]),(41,.cut [(.normal,JI)]),(44,.draw (od [1,3,5,7,9,11,13,14,16,19,20]) []),(48,.draw (od [1,3,5,7,9,11,13,15,17,19,21,23,25,27,29,31,33,35,37,39,41,43,45,46,49]) [(.normal,⟨[(2,.pc 0 0),(3,.bool)],[.cell [.row 1,.sl 80,.row 2,.row 3,.sl 171,.row 4],.row 35,.row 49,.row 86,.row 177]⟩)])])
theorem zvn:zmU.OK prog:=kA (za K50 (za K70 (za K80 (za zxV (za zx0 (za zx3 zf)))))) (by kernel_rfl)
def zjJ:=spA false [] 78 0 f78 ⟨[(0,.pc 0 0),(1,.bool),(2,ii)],Ht⟩ [Ju,(.ret,⟨[],Ht⟩)] (hfind [])
theorem zvo:zjJ.OK prog:=kA zf (by kernel_rfl)
def zmV:=spA false [zjJ] 33 0 f33 ⟨H5,Ht⟩ [Ju,(.ret,⟨[],Ht⟩)] (hfind [])
theorem zvp:zmV.OK prog:=kA (za zvo zf) (by kernel_rfl)
def zmW:=spA false [] 77 1 f77 ⟨Hy,[c23]⟩ Kf (hfind [])
theorem zx4:zmW.OK prog:=kA zf (by kernel_rfl)
def zq5:=spA false [zmW] 76 1 f76 ⟨[(0,.sl 47),(1,.clo 77 [.pc 0 0])],[c23]⟩ Kz (hfind [(6,.loop ⟨[(0,.sl 47),(1,.clo 77 [.pc 0 0]),(7,ii),(8,ii)],[c23]⟩ JQ)])
theorem zx5:zq5.OK prog:=kA (za zx4 zf) (by kernel_rfl)
def zgq:=spA false [zq5] 31 1 f31 ⟨[(0,.val 53),(1,.str)],[]⟩ Jw (hfind [])
theorem zmX:zgq.OK prog:=kA (za zx5 zf) (by kernel_rfl)
def zq6:=spA false [zmV,zgq,P54,zjJ] 34 1 f34 ⟨JG,Ht⟩ [Ju,(.ret,⟨[(0,.agg [.str,ii,.row 2])],[c15,.forow 53,.row 47]⟩)] (hfind [(12,.loop Kd [Ju,(.exit 0,⟨[(0,.pc 0 0),(3,.pc 2 0),(4,.pc 3 0),(5,ii),(6,.pc 4 0)],[c15,.forow 53,c5,c25,c48,.row 47]⟩)]),(20,.cut [Ju,(.normal,Kd)]),(26,.draw (od [1,3,5,7,9,10,13,14]) []),(28,.cut [Ju,(.normal,⟨[(0,.pc 0 0),(3,.pc 2 0),(4,.pc 3 0),(5,ii),(6,.pc 4 0),(8,.pc 5 0),(9,.pc 6 0),(27,.sl 35),(28,ii),(29,ii)],[c15,.forow 53,c5,c25,c53,c5,c5,.row 47]⟩)]),(34,.cut [Ju,(.normal,⟨[(0,.pc 0 0),(3,.pc 2 0),(4,.pc 3 0),(5,ii),(6,.pc 4 0),(10,.pc 5 0),(27,.sl 35),(28,ii),(29,ii)],[c15,.forow 53,c5,c25,c56,c8,.row 47]⟩)]),(36,.draw (od [1,3,5,7,9,11,13,15,17,21,18,22,25,26]) []),(42,.draw (od [1,3,5,7,9,11,13,15,17,19,21,23,25,26]) [])])
theorem zx6:zq6.OK prog:=kA (za zvp (za zmX (za K54 (za zvo zf)))) (by kernel_rfl)
def Wk:=spA false [] 78 0 f78 ⟨[(0,.pc 0 0),(1,.bool),(2,ii)],J0⟩ [Jc,KY] (hfind [])
theorem zbw:Wk.OK prog:=kA zf (by kernel_rfl)
def zmY:=spA false [zgq,Wk] 128 1 f128 ⟨Kh,J0⟩ [Jc,Hl] (hfind [])
theorem zvq:zmY.OK prog:=kA (za zmX (za zbw zf)) (by kernel_rfl)
def zmZ:=spA false [] 129 1 f129 ⟨[(0,.val 49),(1,.pc 0 0)],[c5]⟩ [(.ret,⟨[(0,.bool)],[c5]⟩)] (hfind [])
theorem zx7:zmZ.OK prog:=kA zf (by kernel_rfl)
def zq7:=spA false [zmZ] 91 1 f91 ⟨[(0,.sl 49),(1,.clo 129 [.pc 0 0])],[c5]⟩ [(.ret,⟨[(0,ii)],[c5]⟩)] (hfind [(6,.loop ⟨[(0,.sl 49),(1,.clo 129 [.pc 0 0]),(7,ii),(8,ii)],[c5]⟩ [(.ret,⟨[(4,ii)],[c5]⟩),(.exit 0,⟨[],[c5]⟩)])])
theorem zx8:zq7.OK prog:=kA (za zx7 zf) (by kernel_rfl)
def zgr:=spA false [Wk,zmY] 85 0 f85 ⟨[(0,.pc 0 0),(1,.val 35),(2,.val 47)],J0⟩ [Jc,KY] (hfind [(15,.cut [Jc,Hg]),(18,.cut [(.normal,⟨[(0,.pc 0 0),(4,.pc 2 0),(5,.pc 3 0),(6,.pc 4 0),(47,.bool)],H3⟩)]),(19,.cut [Jc,Hg]),(20,.cut [Jc,Hg]),(21,.cut [Jc,Hg])])
theorem zq8:zgr.OK prog:=kA (za zbw (za zvq zf)) (by kernel_rfl)
def zq9:=spA false [Wk,zgr] 84 0 f84 ⟨[(0,.pc 0 0),(1,.sl 35),(2,.sl 47)],J0⟩ [Jc,KY] (hfind [(5,.loop ⟨[(0,.pc 0 0),(2,.sl 47),(15,.sl 35),(16,ii),(17,ii)],J0⟩ [Jc,(.exit 0,⟨[],J0⟩)]),(16,.draw (od [1,3,5,7,9,11,12]) [])])
theorem zx9:zq9.OK prog:=kA (za zbw (za zq8 zf)) (by kernel_rfl)
def zjK:=spA false [zq7,Wk,zq9] 82 1 f82 ⟨JG,J0⟩ [Jc,Hl] (hfind [(7,.draw (od [1,3,5,7,9,11,13,15,17,19,21,22]) [])])
theorem zvr:zjK.OK prog:=kA (za zx8 (za zbw (za zx9 zf))) (by kernel_rfl)
def zm0:=spA false [zmY,Wk,zjK] 81 1 f81 ⟨JG,J0⟩ [Hl,Jc] (hfind [(10,.cut [Ke,Jc,JB]),(22,.cut [Jc,(.normal,⟨[(4,.pc 2 0),(6,.pc 3 0)],HC⟩)]),(29,.cut [(.normal,⟨[(0,.pc 0 0),(3,.pc 2 0),(4,.pc 3 0),(5,.pc 4 0),(13,ii),(35,.bool)],H3⟩)]),(32,.cut [Jc,Ke,JB]),(34,.draw (od [1,3,5,7,9,11,15,17,19,21,23,25,12,26,28,30,32,34]) [Jc,(.normal,⟨[(0,.pc 0 0),(4,.pc 2 0),(5,.pc 3 0),(7,.pc 4 0),(8,.pc 5 0)],[c0,.forow 53,c8,c8,c8,c8]⟩)]),(36,.cut [Jc,(.normal,⟨[(4,.pc 2 0),(5,.pc 3 0)],HC⟩)]),(43,.cut [(.normal,⟨[(0,.pc 0 0),(3,.pc 2 0),(4,.pc 3 0),(5,.pc 4 0),(13,ii),(63,.bool)],H3⟩)]),(46,.cut [Jc,Ke,JB]),(56,.cut [(.normal,⟨[(4,.pc 2 0),(9,.pc 3 0)],HC⟩)]),(64,.cut [Jc,Ke,JB])])
theorem zya:zm0.OK prog:=kA (za zvq (za zbw (za zvr zf))) (by kernel_rfl)
def zm1:=spA false [zgq,Wk] 80 0 f80 ⟨[(0,.pc 0 0),(1,.str),(2,.val 47)],[c0,.orow 53]⟩ [JC,(.ret,Ho)] (hfind [(11,.draw (od [1,3,5,7,9,11,13,15,17,19,21,23,25,26]) []),(14,.draw (od [1,3,5,7,9,11,13,15,17,19,21,23,24,26,29,31,32]) [])])
theorem zyb:zm1.OK prog:=kA (za zmX (za zbw zf)) (by kernel_rfl)
def zm2:=spA false [] 83 1 f83 ⟨[(0,.val 53),(1,.pz 35 0)],[]⟩ Jr (hfind [])
theorem zyc:zm2.OK prog:=kA zf (by kernel_rfl)
def zm3:=spA false [zm2] 39 1 f39 ⟨[(0,.row 0),(1,.clo 83 [.pc 1 0])],Hw⟩ [(.ret,⟨[(0,ii)],Hw⟩)] (hfind [(6,.loop ⟨[(0,.row 0),(1,.clo 83 [.pc 1 0]),(7,ii),(8,ii)],Hw⟩ [(.ret,⟨[(4,ii)],Hw⟩),(.exit 0,⟨[],Hw⟩)])])
theorem zyd:zm3.OK prog:=kA (za zyc zf) (by kernel_rfl)
def zm4:=spA false [Wk,zgr] 84 0 f84 ⟨[(0,.pc 0 0),(1,.sl 35),(2,.nxp 1 53 47)],J0⟩ [Jc,KY] (hfind [(5,.loop ⟨[(0,.pc 0 0),(2,.nxp 1 53 47),(15,.sl 35),(16,ii),(17,ii)],J0⟩ [Jc,(.exit 0,⟨[],J0⟩)]),(16,.draw (od [1,3,5,7,9,11,12]) [])])
theorem zye:zm4.OK prog:=kA (za zbw (za zq8 zf)) (by kernel_rfl)
def Vb:Sig:=⟨[(0,.pc 0 0),(1,.sl 35)],J0⟩
def Ve:List (XK×Sig):=[JC,(.ret,Ho)]
def zvs:Nat->G4 Hint:=hfind [(5,.loop JN [JC,(.exit 0,Ho)]),(23,.cut Jd),(24,.draw (od [1,3,5,7,9,11,13,15,16,18]) Jd),(27,.cut Jd),(31,.cut Jd),(36,.draw (od [1,3,5,7,9,11,13,15,17,19,21,23,25,27,29,31,33,35,37,39,40]) []),(40,.cut [(.normal,⟨[(0,.pc 0 0),(4,.pc 2 0),(6,.pc 3 0),(11,.sl 35),(12,ii),(13,ii),(23,ii),(79,.bool)],[c0,.orow 53,c8,c5]⟩)]),(43,.cut Jd),(45,.draw (od [1,3,5,7,9,11,12]) []),(47,.draw (od [1,3,5,7,9,11,12]) []),(51,.loop ⟨[(0,.pc 0 0),(4,.pc 2 0),(11,.sl 35),(12,ii),(13,ii),(98,.sl 35),(99,ii),(100,ii)],[c0,.orow 53,c8]⟩ [JC,(.exit 3,JN)]),(66,.cut Jd),(70,.cut [(.normal,JN),JC])]
def zm5 (h:Vb.ty CC->G4 (zi CC Ve)):Spec CC:=⟨35,0,Vb,Ve,h⟩
def zhI (h:Vb.ty CC->G4 (zi CC Ve)) (x:Vb.ty CC):G4 (zi CC Ve):=X2 ⟨false⟩ [zm0,zm1,zjK,zm3,Wk,zm4,zgr,zm5 h] lpO prog f35 0 Vb Ve zvs x
def zxh (h:Vb.ty CC->G4 (zi CC Ve)):Spec CC:=⟨35,0,Vb,Ve,zhI h⟩
theorem zxi {h:Vb.ty CC->G4 (zi CC Ve)}(hh:Spec.OK prog (zm5 h)):Spec.OK prog (zxh h):=yF (za zya (za zyb (za zvr (za zyd (za zbw (za zye (za zq8 (za hh zf)))))))) ZK ZJ zvs (by kernel_rfl) (by kernel_rfl) (by kernel_rfl) fun x=>rfl
def zfi:Nat->Vb.ty CC->G4 (zi CC Ve)
  |0=>fun _=>none
  |k+1=>zhI (zfi k)
theorem zsD:∀ k,Spec.OK prog (zm5 (zfi k))
  |0=>⟨f35,by kernel_rfl,by kernel_rfl,by kernel_rfl,fun x r h=>by cases h⟩
  |k+1=>zxi (zsD k)
def zvt (x:Vb.ty CC):G4 (zi CC Ve):=zfi 100000 x
def zvu:Spec CC:=⟨35,0,Vb,Ve,zvt⟩
theorem zyf:Spec.OK prog zvu:=zsD 100000
def zjL:=spA false [] 161 1 f161 JV [(.ret,JV)] (hfind [])
theorem zyg:zjL.OK prog:=kA zf (by kernel_rfl)
def zgs:=spA false [] 181 1 f181 JV [(.ret,HJ)] (hfind [])
theorem zra:zgs.OK prog:=kA zf (by kernel_rfl)
def zet:=spA false [zgs] 163 1 f163 ⟨[(0,.val 35),(1,ii)],[]⟩ [(.ret,HJ)] (hfind [])
theorem zrb:zet.OK prog:=kA (za zra zf) (by kernel_rfl)
def zjM:=spA false [zgs] 164 1 f164 JV [(.ret,⟨[(0,.row 0)],[.row 68]⟩)] (hfind [(8,.loop ⟨[(3,.row 0),(7,.sl 35),(8,ii),(9,ii)],[.row 68]⟩ [(.exit 0,⟨[(3,.row 0)],[.row 68]⟩)])])
theorem zvv:zjM.OK prog:=kA (za zra zf) (by kernel_rfl)
def zbx:=spA false [] 87 1 f87 ⟨[(0,.pc 0 0),(1,.val 71)],[c24,.row 71]⟩ [(.ret,⟨[(0,ii)],[c47,.gone,.row 71]⟩)] (hfind [(3,.draw (od [1,3,5,7,9,11,12,14,17,19,20]) [])])
theorem zm6:zbx.OK prog:=kA zf (by kernel_rfl)
def zm7:=spA false [zet,zjM,zgs,zbx] 160 0 f160 ⟨[(0,.pc 0 0),(1,.val 35),(2,.val 35)],[c24,.row 71]⟩ [(.ret,JK)] (hfind [(11,.cut [(.normal,⟨[(0,.pc 0 0),(5,.pc 2 0),(6,.pc 3 0),(13,ii),(17,.bool)],HH⟩)]),(14,.cut Jx),(15,.draw (od [1,3,5,7,9,13,17,10,14,18,21,22,25,26]) []),(18,.cut Jx),(19,.draw (od [1,3,5,7,8,11,12]) []),(22,.cut Jx),(23,.draw (od [1,3,5,7,8,11,12]) []),(26,.cut Jx),(27,.draw (od [1,3,5,9,6,10,13,14,17,18]) []),(30,.cut Jx),(31,.draw (od [1,3,5,9,6,10,13,14,17,18]) []),(35,.cut [(.normal,⟨[(0,.pc 0 0),(5,.pc 2 0),(6,.pc 3 0),(63,.bool)],HH⟩)]),(38,.cut [(.normal,⟨[(0,.pc 0 0),(6,.pc 2 0)],[c24,.row 71,c6]⟩)])])
theorem zyh:zm7.OK prog:=kA (za zrb (za zvv (za zra (za zm6 zf)))) (by kernel_rfl)
def zrc:Sig:=⟨JG,[c24,.row 71]⟩
def zrd:List (XK×Sig):=[(.ret,JK)]
def zvw:Nat->G4 Hint:=hfind [(9,.draw (od [1,3,5,7,9,11,15,12,16,19,20,23]) []),(15,.draw (od [1,3,5,7,9,11,13,15,17,19,21,23,24]) []),(17,.cut [(.normal,⟨[(0,.pc 0 0),(3,.pc 2 0),(5,ii),(53,.bool)],[c51,.gone,c5,.row 71]⟩)]),(18,.cut [(.normal,JK)]),(21,.draw (od [1,3,5,7,9,11,13,15,17,19,21,23,24]) [])]
def zre:Sig:=⟨JG,[c24,.row 71]⟩
def zrf:List (XK×Sig):=[(.ret,JK)]
def zvx:Nat->G4 Hint:=hfind [(10,.cut [(.ret,JK),Jm]),(12,.draw (od [1,3,5,6,8]) []),(17,.cut [(.normal,⟨[(0,.pc 0 0),(3,.pc 2 0),(4,.pc 3 0),(11,ii),(21,.bool)],HH⟩)]),(26,.cut [Jm]),(27,.draw (od [1,5,9,2,6,10,13,14,17,18]) []),(30,.cut [Jm]),(34,.cut [Jm]),(35,.draw (od [1,3,5,7,8,11,12]) []),(38,.cut [Jm]),(39,.draw (od [1,3,5,7,8,11,12]) []),(42,.cut [Jm]),(43,.draw (od [1,7,13,2,5,8,10,14,17,18,21,22]) []),(46,.cut [Jm]),(50,.cut [(.normal,⟨[(0,.pc 0 0),(4,.pc 2 0)],[c24,.row 71,c6]⟩)]),(51,.draw (od [1,3,5,7,9,13,10,14,17,18,21,22,25,26]) [])]
def Xh:Sig:=⟨JG,[c24,.row 71]⟩
def Xi:List (XK×Sig):=[(.ret,JK)]
def zvy:Nat->G4 Hint:=hfind [(5,.loop ⟨[(0,.pc 0 0),(7,.sl 35),(8,ii),(9,ii)],[c47,.gone,.row 71]⟩ [(.exit 0,JK)])]
def zfj (h:Xh.ty CC->G4 (zi CC Xi)):Spec CC:=⟨86,0,Xh,Xi,h⟩
def zhJ (h:Xh.ty CC->G4 (zi CC Xi)) (x:zrc.ty CC):G4 (zi CC zrd):=X2 ⟨false⟩ [zet,zbx,zfj h] lpO prog f162 0 zrc zrd zvw x
def zsE (h:Xh.ty CC->G4 (zi CC Xi)):Spec CC:=⟨162,0,zrc,zrd,zhJ h⟩
theorem zxj {h:Xh.ty CC->G4 (zi CC Xi)}(hh:Spec.OK prog (zfj h)):Spec.OK prog (zsE h):=yF (za zrb (za zm6 (za hh zf))) ZK ZJ zvw (by kernel_rfl) (by kernel_rfl) (by kernel_rfl) fun x=>rfl
def zhK (h:Xh.ty CC->G4 (zi CC Xi)) (x:zre.ty CC):G4 (zi CC zrf):=X2 ⟨false⟩ [zjL,zm7,zsE h,zet,zjM,zbx] lpO prog f130 0 zre zrf zvx x
def zsF (h:Xh.ty CC->G4 (zi CC Xi)):Spec CC:=⟨130,0,zre,zrf,zhK h⟩
theorem zxk {h:Xh.ty CC->G4 (zi CC Xi)}(hh:Spec.OK prog (zfj h)):Spec.OK prog (zsF h):=yF (za zyg (za zyh (za (zxj hh) (za zrb (za zvv (za zm6 zf)))))) ZK ZJ zvx (by kernel_rfl) (by kernel_rfl) (by kernel_rfl) fun x=>rfl
def zhL (h:Xh.ty CC->G4 (zi CC Xi)) (x:Xh.ty CC):G4 (zi CC Xi):=X2 ⟨false⟩ [zsF h] lpO prog f86 0 Xh Xi zvy x
def zxl (h:Xh.ty CC->G4 (zi CC Xi)):Spec CC:=⟨86,0,Xh,Xi,zhL h⟩
theorem zxm {h:Xh.ty CC->G4 (zi CC Xi)}(hh:Spec.OK prog (zfj h)):Spec.OK prog (zxl h):=yF (za (zxk hh) zf) ZK ZJ zvy (by kernel_rfl) (by kernel_rfl) (by kernel_rfl) fun x=>rfl
def zfk:Nat->Xh.ty CC->G4 (zi CC Xi)
  |0=>fun _=>none
  |k+1=>zhL (zfk k)
theorem zsG:∀ k,Spec.OK prog (zfj (zfk k))
  |0=>⟨f86,by kernel_rfl,by kernel_rfl,by kernel_rfl,fun x r h=>by cases h⟩
  |k+1=>zxm (zsG k)
def zvz (x:Xh.ty CC):G4 (zi CC Xi):=zfk 100000 x
def zvA:Spec CC:=⟨86,0,Xh,Xi,zvz⟩
theorem zyi:Spec.OK prog zvA:=zsG 100000
def zrg:=spA false [zvA,zbx] 36 1 f36 JV [(.ret,⟨[(0,.val 61)],[]⟩)] (hfind [(18,.loop JE [(.exit 0,⟨[(2,.pc 0 0),(3,.pc 1 0),(4,.pc 2 0)],[c39,c37,c40,.row 9,.row 71]⟩)]),(34,.cut [(.normal,JE)]),(38,.cut [(.normal,JE)])])
theorem zyj:zrg.OK prog:=kA (za zyi (za zm6 zf)) (by kernel_rfl)
def zrh:=spA false [Wk] 33 0 f33 ⟨H5,J0⟩ [Jc,KY] (hfind [])
theorem zyk:zrh.OK prog:=kA (za zbw zf) (by kernel_rfl)
def zri:Sig:=⟨[(0,.pc 0 0),(1,.pc 1 0),(2,.pc 2 0),(3,.ifc 112 (.agg [ii,ii]))],H0⟩
def zrj:List (XK×Sig):=[(.ret,⟨[],[c28,c11,c11,.forow 53]⟩)]
def zvB:Nat->G4 Hint:=hfind [(5,.draw (od [1,3,5,7,8,10,12]) [])]
def zrk (x:zri.ty CC):G4 (zi CC zrj):=zbo ⟨false⟩ [] lpO prog f32 0 zri zrj zvB x
def zvC:Spec CC:=⟨32,0,zri,zrj,zrk⟩
theorem zyl:Spec.OKD prog zvC:=vx zf ZK ZJ zvB (by kernel_rfl) (by kernel_rfl) (by kernel_rfl) fun x=>rfl
def zrl:Sig:=⟨Ks,H0⟩
def zrm:List (XK×Sig):=[(.ret,⟨[],H0⟩)]
def zvD:Nat->G4 Hint:=hfind []
def zrn (x:zrl.ty CC):G4 (zi CC zrm):=zbo ⟨false⟩ [] lpO prog f32 0 zrl zrm zvD x
def zvE:Spec CC:=⟨32,0,zrl,zrm,zrn⟩
theorem zym:Spec.OKD prog zvE:=vx zf ZK ZJ zvD (by kernel_rfl) (by kernel_rfl) (by kernel_rfl) fun x=>rfl
def zro:Sig:=⟨[(0,.val 35),(1,.sl 49),(2,.sl 80)],[]⟩
def zrp:List (XK×Sig):=[(.ret,⟨Kb,[.orow 53]⟩)]
def zvF:Nat->G4 Hint:=hfind [(3,.loop ⟨[(1,.sl 49),(2,.sl 80),(3,.pc 0 0),(6,.pc 1 0),(7,.pc 2 0),(8,.pc 3 0),(14,.clo 32 [.pc 1 0,.pc 2 0,.pc 3 0])],[c5,c28,c11,c11]⟩ []),(10,.loop J1 [Ji,(.exit 0,⟨[(3,.pc 0 0),(6,.pc 1 0),(7,.pc 2 0),(8,.pc 3 0),(9,.pc 4 0)],[c5,c28,c11,c11,c36,.orow 53]⟩)]),(18,.cut [Ji,(.normal,J1)]),(23,.draw (od [1,3,5,7,11,13,8718,8720,16,8,18,21,23,24,14,16,18,21,23,24]) [Ji,(.normal,J1)]),(29,.loop ⟨[(6,.pc 1 0),(7,.pc 2 0),(8,.pc 3 0),(9,.pc 4 0),(46,.sl 35),(47,ii),(48,ii)],KZ⟩ [Ji,(.exit 2,⟨[(6,.pc 1 0),(7,.pc 2 0),(8,.pc 3 0),(9,.pc 4 0)],KZ⟩)]),(37,.cut [Ji,(.normal,JL)]),(44,.draw (od [1,3,5,7,9,11,13,15,17,19,21,23,25,26,29,31,33,35,36]) [Ji,(.normal,JL)])]
def zvG (x:zro.ty CC):G4 (zi CC zrp):=zgh ⟨false⟩ [zmV,zq6,zvu,zrg,zrh] (zvE) (zvC) lpO prog f9 3 zro zrp zvF x
def zrq:Spec CC:=⟨9,3,zro,zrp,zvG⟩
theorem zvH:Spec.OK prog zrq:=zgi (za zvp (za zx6 (za zyf (za zyj (za zyk zf))))) zym zyl ZK ZJ zvF (by kernel_rfl) (by kernel_rfl) (by kernel_rfl) fun x=>rfl
def zrr:=spA false [zmU,P50,zrq,zgq] 8 1 f8 ⟨[],[]⟩ Jr (hfind [(10,.cut [(.normal,⟨[(1,.pc 0 0),(3,.pc 1 0),(6,.pc 2 0),(38,.bool)],[c35,c5,c5]⟩)]),(21,.cut [(.normal,⟨[(0,.bool)],[]⟩)])])
theorem zyn:zrr.OK prog:=kA (za zvn (za K50 (za zvH (za zmX zf)))) (by kernel_rfl)
def Vf:Sig:=⟨[(0,.val 35),(1,.row 0),(2,.row 1)],KI⟩
def Vg:List (XK×Sig):=[(.ret,⟨[(0,.bool)],KI⟩)]
def zvI:Nat->G4 Hint:=hfind [(9,.cut Je),(13,.cut Je),(17,.cut Je),(21,.cut Je),(25,.cut Je),(29,.cut Je),(33,.cut Je),(36,.cut Jp),(42,.cut Jp),(52,.cut Jp),(62,.cut Jp),(75,.loop ⟨[(1,.row 0),(2,.row 1),(41,.sl 35),(42,ii),(43,ii)],KI⟩ [(.ret,⟨[(6,.bool)],KI⟩),(.exit 1,⟨[],KI⟩)])]
def zm8 (h:Vf.ty CC->G4 (zi CC Vg)):Spec CC:=⟨10,1,Vf,Vg,h⟩
def zhM (h:Vf.ty CC->G4 (zi CC Vg)) (x:Vf.ty CC):G4 (zi CC Vg):=X2 ⟨false⟩ [zm8 h] lpO prog f10 1 Vf Vg zvI x
def zxn (h:Vf.ty CC->G4 (zi CC Vg)):Spec CC:=⟨10,1,Vf,Vg,zhM h⟩
theorem zxo {h:Vf.ty CC->G4 (zi CC Vg)}(hh:Spec.OK prog (zm8 h)):Spec.OK prog (zxn h):=yF (za hh zf) ZK ZJ zvI (by kernel_rfl) (by kernel_rfl) (by kernel_rfl) fun x=>rfl
def zfl:Nat->Vf.ty CC->G4 (zi CC Vg)
  |0=>fun _=>none
  |k+1=>zhM (zfl k)
theorem zsH:∀ k,Spec.OK prog (zm8 (zfl k))
  |0=>⟨f10,by kernel_rfl,by kernel_rfl,by kernel_rfl,fun x r h=>by cases h⟩
  |k+1=>zxo (zsH k)
def zvJ (x:Vf.ty CC):G4 (zi CC Vg):=zfl 100000 x
def zvK:Spec CC:=⟨10,1,Vf,Vg,zvJ⟩
theorem zyo:Spec.OK prog zvK:=zsH 100000
def zgt:=spA false [zmU,P50,zrr,zrq,zvK] 3 1 f3 KX Jr (hfind [(8,.cut [(.normal,⟨[(5,.pc 0 0),(7,.pc 1 0),(39,.bool)],[c35,c5]⟩)]),(30,.loop ⟨[(5,.pc 0 0),(7,.pc 1 0),(13,.row 2),(14,.row 3),(56,.sl 35),(57,ii),(58,ii)],[c35,c5,.obj 0 43,.obj 0 43]⟩ [(.ret,⟨[(4,.bool)],[]⟩),(.exit 0,⟨[(5,.pc 0 0),(7,.pc 1 0),(13,.row 2),(14,.row 3)],[c35,c5,.obj 0 43,.obj 0 43]⟩)]),(55,.loop ⟨[(7,.pc 0 0),(13,.row 1),(14,.row 2),(72,.sl 49),(73,ii),(74,ii)],[c5,.obj 0 43,.obj 0 43]⟩ [(.exit 2,⟨[(7,.pc 0 0),(13,.row 1),(14,.row 2)],[c5,.obj 0 43,.obj 0 43]⟩)])])
theorem zyp:zgt.OK prog:=kA (za zvn (za K50 (za zyn (za zvH (za zyo zf))))) (by kernel_rfl)
end
end Go.Px
