/- Part Ch: PxTm. -/
import Derived.Test.YtpcipfnohfefhaaGreatDoorSf
set_option linter.unusedVariables false
set_option linter.unusedSimpArgs false
namespace Go.Px
open Go.Proofs Go.Proofs.Tryz
set_option maxRecDepth 100000
noncomputable section
theorem ZQ:Tryz.prog.follows .mixedOrders=true:=by kernel_rfl
def GLk:World->FS->Prop:=fun _ Z=>(∃ t p,Z 0 0=some (.iface t p))/\∃ t p,Z 1 0=some (.iface t p)
theorem glm {Z τ:FS}{w w':World}{h:zc}(l:Z.le τ) (_:Ext w h w') (g:GLk w Z):GLk w' τ:=by
  obtain ⟨⟨t,p,a⟩,t',p',b⟩:=g
  exact ⟨⟨t,p,l _ _ _ a⟩,t',p',l _ _ _ b⟩
structure qn where
  k_:Int
  T_:G0
  n_:Int
  a_:Int
structure q8 where
  Q_:(Sl qn)
  D_:Int
structure q7 where
  k_:Int
  T_:G0
  n_:Int
  a_:Int
  K_:(Sl q7)
structure qp where
  N_:G0
  U_:Int
structure qr where
  X_:Int
  Y_:Int
  C_:Int
structure qa where
  N_:G0
  S_:Int
  o_:Int
  J_:(Sl qp)
  f_:(Sl qr)
structure qf where
  N_:G0
  M_:Int
  t_:Int
structure qd where
  N_:G0
  P_:(Sl qf)
  R_:qf
structure q9 where
  k_:Int
  T_:G0
  n_:Int
  a_:Int
structure q6 where
  k_:Int
  T_:G0
  n_:Int
  a_:Int
  K_:(Sl q6)
structure qk where
  N_:G0
  U_:Int
structure qq where
  X_:Int
  Y_:Int
  C_:Int
structure qc where
  N_:G0
  S_:Int
  o_:Int
  J_:(Sl qk)
  f_:(Sl qq)
structure qh where
  N_:G0
  M_:Int
  t_:Int
structure qg where
  N_:G0
  P_:(Sl qh)
  R_:qh
structure qw where
  G_:(Sl q7)
  Z_:(Sl qa)
  s_:(Sl qd)
  r_:(Sl q6)
  I_:(Sl qc)
  E_:(Sl qg)
structure qb where
  N_:G0
  P_:Int
  V_:(Sl qf)
structure qt where
  N_:G0
  n_:Int
structure qi where
  O_:Int
  a_:Int
  X_:G0
  Y_:G0
  A_:qt
  B_:qt
  W_:(Sl qt)
  w_:Int
  H_:Bool
structure q1h where
  N_:G0
  P_:(Sl G0)
  L_:(Sl qi)
structure qz where
  G_:(Sl q7)
  Z_:(Sl qa)
  s_:(Sl qd)
  r_:(Sl q6)
  I_:(Sl qc)
  E_:(Sl qg)
structure qe where
  N_:G0
  P_:Int
  V_:(Sl qh)
structure ql where
  N_:G0
  n_:Int
structure qm where
  O_:Int
  a_:Int
  X_:G0
  Y_:G0
  A_:ql
  B_:ql
  W_:(Sl ql)
  w_:Int
  H_:Bool
structure q1f where
  N_:G0
  P_:(Sl G0)
  L_:(Sl qm)
structure q1q where
  G_:(Sl qb)
  h_:(Sl q1h)
  r_:(Sl qe)
  g_:(Sl q1f)
structure qj where
  c_:q1h
  F_:qb
  z_:(Sl qd)
  q_:(Sl qb)
  j_:(Sl qa)
structure q12 where
  c_:q1f
  F_:qe
  z_:(Sl qg)
  q_:(Sl qe)
  j_:(Sl qc)
abbrev DT:List (Nat×Type):=[(104,qn),(101,q8),(35,q7),(214,qp),(275,qr),(80,qa),(9,G0),(47,qf),(49,qd),(163,q9),(86,q6),(228,qk),(231,qq),(171,qc),(3,Int),(175,qh),(177,qg),(30,qw),(53,qb),(68,qt),(71,qi),(61,q1h),(123,qz),(137,qe),(250,ql),(253,qm),(134,q1f),(128,q1q),(63,qj),(139,q12),(131,q12),(43,(G0×Int)),(72,(Int×Int))]
abbrev DD:Nat->Type:=zsk DT
def zmw:(T:Nat)->G3 (PLift (DD T=(G0×Int))):=fun T=>if h:T=43 then some ⟨h ▸ rfl⟩ else none
def zmx:(T:Nat)->G3 (PLift (DD T=(Int×Int))):=fun T=>if h:T=72 then some ⟨h ▸ rfl⟩ else none
def ET:List ((T:Nat)×TyE DD T):=[⟨104,true,[.int .i64,.str,.int .i64,.int .i64],fun (x:qn)=>(x.k_,x.T_,x.n_,x.a_,()),fun (a0,a1,a2,a3,_)=>some (show qn from ⟨a0,a1,a2,a3⟩),fun x y h=>by cases h;rfl⟩,
  ⟨101,true,[.sl 104,.int .i64],fun (x:q8)=>(x.Q_,x.D_,()),fun (a0,a1,_)=>some (show q8 from ⟨a0,a1⟩),fun x y h=>by cases h;rfl⟩,
  ⟨35,true,[.int .i64,.str,.int .i64,.int .i64,.sl 35],fun (x:q7)=>(x.k_,x.T_,x.n_,x.a_,x.K_,()),fun (a0,a1,a2,a3,a4,_)=>some (show q7 from ⟨a0,a1,a2,a3,a4⟩),fun x y h=>by cases h;rfl⟩,
  ⟨214,true,[.str,.int .i64],fun (x:qp)=>(x.N_,x.U_,()),fun (a0,a1,_)=>some (show qp from ⟨a0,a1⟩),fun x y h=>by cases h;rfl⟩,
  ⟨275,true,[.int .i64,.int .i64,.int .i64],fun (x:qr)=>(x.X_,x.Y_,x.C_,()),fun (a0,a1,a2,_)=>some (show qr from ⟨a0,a1,a2⟩),fun x y h=>by cases h;rfl⟩,
  ⟨80,true,[.str,.int .i64,.int .i64,.sl 214,.sl 275],fun (x:qa)=>(x.N_,x.S_,x.o_,x.J_,x.f_,()),fun (a0,a1,a2,a3,a4,_)=>some (show qa from ⟨a0,a1,a2,a3,a4⟩),fun x y h=>by cases h;rfl⟩,
  ⟨9,false,[.str],fun (x:G0)=>(x,()),fun (a0,_)=>some (show G0 from a0),fun x y h=>by cases h;rfl⟩,
  ⟨47,true,[.str,.int .i64,.int .i64],fun (x:qf)=>(x.N_,x.M_,x.t_,()),fun (a0,a1,a2,_)=>some (show qf from ⟨a0,a1,a2⟩),fun x y h=>by cases h;rfl⟩,
  ⟨49,true,[.str,.sl 47,.str,.int .i64,.int .i64],fun (x:qd)=>(x.N_,x.P_,x.R_.N_,x.R_.M_,x.R_.t_,()),fun (a0,a1,a2,a3,a4,_)=>some (show qd from ⟨a0,a1,⟨a2,a3,a4⟩⟩),fun x y h=>by cases h;rfl⟩,
  ⟨163,true,[.int .i64,.str,.int .i64,.int .i64],fun (x:q9)=>(x.k_,x.T_,x.n_,x.a_,()),fun (a0,a1,a2,a3,_)=>some (show q9 from ⟨a0,a1,a2,a3⟩),fun x y h=>by cases h;rfl⟩,
  ⟨86,true,[.int .i64,.str,.int .i64,.int .i64,.sl 86],fun (x:q6)=>(x.k_,x.T_,x.n_,x.a_,x.K_,()),fun (a0,a1,a2,a3,a4,_)=>some (show q6 from ⟨a0,a1,a2,a3,a4⟩),fun x y h=>by cases h;rfl⟩,
  ⟨228,true,[.str,.int .i64],fun (x:qk)=>(x.N_,x.U_,()),fun (a0,a1,_)=>some (show qk from ⟨a0,a1⟩),fun x y h=>by cases h;rfl⟩,
  ⟨231,true,[.int .i64,.int .i64,.int .i64],fun (x:qq)=>(x.X_,x.Y_,x.C_,()),fun (a0,a1,a2,_)=>some (show qq from ⟨a0,a1,a2⟩),fun x y h=>by cases h;rfl⟩,
  ⟨171,true,[.str,.int .i64,.int .i64,.sl 228,.sl 231],fun (x:qc)=>(x.N_,x.S_,x.o_,x.J_,x.f_,()),fun (a0,a1,a2,a3,a4,_)=>some (show qc from ⟨a0,a1,a2,a3,a4⟩),fun x y h=>by cases h;rfl⟩,
  ⟨3,false,[.int .i64],fun (x:Int)=>(x,()),fun (a0,_)=>some (show Int from a0),fun x y h=>by cases h;rfl⟩,
  ⟨175,true,[.str,.int .i64,.int .i64],fun (x:qh)=>(x.N_,x.M_,x.t_,()),fun (a0,a1,a2,_)=>some (show qh from ⟨a0,a1,a2⟩),fun x y h=>by cases h;rfl⟩,
  ⟨177,true,[.str,.sl 175,.str,.int .i64,.int .i64],fun (x:qg)=>(x.N_,x.P_,x.R_.N_,x.R_.M_,x.R_.t_,()),fun (a0,a1,a2,a3,a4,_)=>some (show qg from ⟨a0,a1,⟨a2,a3,a4⟩⟩),fun x y h=>by cases h;rfl⟩,
  ⟨30,true,[.sl 35,.sl 80,.sl 49,.sl 86,.sl 171,.sl 177],fun (x:qw)=>(x.G_,x.Z_,x.s_,x.r_,x.I_,x.E_,()),fun (a0,a1,a2,a3,a4,a5,_)=>some (show qw from ⟨a0,a1,a2,a3,a4,a5⟩),fun x y h=>by cases h;rfl⟩,
  ⟨53,true,[.str,.int .i64,.sl 47],fun (x:qb)=>(x.N_,x.P_,x.V_,()),fun (a0,a1,a2,_)=>some (show qb from ⟨a0,a1,a2⟩),fun x y h=>by cases h;rfl⟩,
  ⟨68,true,[.str,.int .i64],fun (x:qt)=>(x.N_,x.n_,()),fun (a0,a1,_)=>some (show qt from ⟨a0,a1⟩),fun x y h=>by cases h;rfl⟩,
  ⟨71,true,[.int .i64,.int .i64,.str,.str,.str,.int .i64,.str,.int .i64,.sl 68,.int .i64,.bool],fun (x:qi)=>(x.O_,x.a_,x.X_,x.Y_,x.A_.N_,x.A_.n_,x.B_.N_,x.B_.n_,x.W_,x.w_,x.H_,()),fun (a0,a1,a2,a3,a4,a5,a6,a7,a8,a9,a10,_)=>some (show qi from ⟨a0,a1,a2,a3,⟨a4,a5⟩,⟨a6,a7⟩,a8,a9,a10⟩),fun x y h=>by cases h;rfl⟩,
  ⟨61,true,[.str,.sl 9,.sl 71],fun (x:q1h)=>(x.N_,x.P_,x.L_,()),fun (a0,a1,a2,_)=>some (show q1h from ⟨a0,a1,a2⟩),fun x y h=>by cases h;rfl⟩,
  ⟨123,true,[.sl 35,.sl 80,.sl 49,.sl 86,.sl 171,.sl 177],fun (x:qz)=>(x.G_,x.Z_,x.s_,x.r_,x.I_,x.E_,()),fun (a0,a1,a2,a3,a4,a5,_)=>some (show qz from ⟨a0,a1,a2,a3,a4,a5⟩),fun x y h=>by cases h;rfl⟩,
  ⟨137,true,[.str,.int .i64,.sl 175],fun (x:qe)=>(x.N_,x.P_,x.V_,()),fun (a0,a1,a2,_)=>some (show qe from ⟨a0,a1,a2⟩),fun x y h=>by cases h;rfl⟩,
  ⟨250,true,[.str,.int .i64],fun (x:ql)=>(x.N_,x.n_,()),fun (a0,a1,_)=>some (show ql from ⟨a0,a1⟩),fun x y h=>by cases h;rfl⟩,
  ⟨253,true,[.int .i64,.int .i64,.str,.str,.str,.int .i64,.str,.int .i64,.sl 250,.int .i64,.bool],fun (x:qm)=>(x.O_,x.a_,x.X_,x.Y_,x.A_.N_,x.A_.n_,x.B_.N_,x.B_.n_,x.W_,x.w_,x.H_,()),fun (a0,a1,a2,a3,a4,a5,a6,a7,a8,a9,a10,_)=>some (show qm from ⟨a0,a1,a2,a3,⟨a4,a5⟩,⟨a6,a7⟩,a8,a9,a10⟩),fun x y h=>by cases h;rfl⟩,
  ⟨134,true,[.str,.sl 9,.sl 253],fun (x:q1f)=>(x.N_,x.P_,x.L_,()),fun (a0,a1,a2,_)=>some (show q1f from ⟨a0,a1,a2⟩),fun x y h=>by cases h;rfl⟩,
  ⟨128,true,[.sl 53,.sl 61,.sl 137,.sl 134],fun (x:q1q)=>(x.G_,x.h_,x.r_,x.g_,()),fun (a0,a1,a2,a3,_)=>some (show q1q from ⟨a0,a1,a2,a3⟩),fun x y h=>by cases h;rfl⟩,
  ⟨63,true,[.str,.sl 9,.sl 71,.str,.int .i64,.sl 47,.sl 49,.sl 53,.sl 80],fun (x:qj)=>(x.c_.N_,x.c_.P_,x.c_.L_,x.F_.N_,x.F_.P_,x.F_.V_,x.z_,x.q_,x.j_,()),fun (a0,a1,a2,a3,a4,a5,a6,a7,a8,_)=>some (show qj from ⟨⟨a0,a1,a2⟩,⟨a3,a4,a5⟩,a6,a7,a8⟩),fun x y h=>by cases h;rfl⟩,
  ⟨139,true,[.str,.sl 9,.sl 253,.str,.int .i64,.sl 175,.sl 177,.sl 137,.sl 171],fun (x:q12)=>(x.c_.N_,x.c_.P_,x.c_.L_,x.F_.N_,x.F_.P_,x.F_.V_,x.z_,x.q_,x.j_,()),fun (a0,a1,a2,a3,a4,a5,a6,a7,a8,_)=>some (show q12 from ⟨⟨a0,a1,a2⟩,⟨a3,a4,a5⟩,a6,a7,a8⟩),fun x y h=>by cases h;rfl⟩,
  ⟨131,false,[.pz 139],fun (x:q12)=>(x,()),fun (a0,_)=>some (show q12 from a0),fun x y h=>by cases h;rfl⟩]
def CC:Cod:=zwQ DD ET GLk glm (ziz zmw zmx) (mps:=zww zmw zmx) (mpi:=zwx zmw zmx) (nst:=fun t=>bif Nat.beq t 137 then 2 else bif Nat.beq t 53 then 2 else 0) (own:=fun t=>Nat.beq t 137 || Nat.beq t 53 || false) (bz:=fun t=>Nat.beq t 139 || false)
def od:List Nat->List (Nat×Bool):=List.map fun n=>(n / 2,Nat.beq (n % 2) 1)
def spA (b:Bool) (Γ:List (Spec CC)) (f nr:Nat) (fn:Func) (I:Sig) (O:List (XK×Sig)) (H:Nat->G3 Hint):Spec CC:=⟨f,nr,I,O,fun x=>wD ⟨b⟩ Γ lpO prog fn nr I O H x⟩
theorem kA {b : Bool} {Γ : List (Spec CC)} {f nr : Nat} {fn : Func} {I : Sig} {O : List (XK × Sig)} {H : Nat -> G3 Hint} (h : ∀ s ∈ Γ, s.OK prog) (e : (Tryz.prog.funcs[f]?, (fn.name == "runtime.NumGoroutine"), fn.body.isNone) = (some fn, false, false)) : (spA b Γ f nr fn I O H).OK prog :=
  yX h ZQ ZO H (Prod.mk.inj e).1 (Prod.mk.inj (Prod.mk.inj e).2).1 (Prod.mk.inj (Prod.mk.inj e).2).2 fun x=>rfl
abbrev ii:Sh :=.int .i64
abbrev c0:ESh :=.cell [.sl 49,.sl 80,.row 1,ii,.pr 1 53 0]
abbrev c1:ESh :=.cell [ii,.str,ii,ii,.nils]
abbrev c2:ESh :=.cell [.val 101]
abbrev c3:ESh :=.cell [.row 1,ii,ii,ii,ii]
abbrev c4:ESh :=.cell [.sl 177,.sl 171,.row 1,ii,ii]
abbrev c5:ESh :=.cell [.val 35]
abbrev c6:ESh :=.cell [ii,ii,.str,.str,.str,ii,.str,ii,.nils,ii,.bool]
abbrev c7:ESh :=.cell [.val 86]
abbrev c8:ESh :=.cell [.val 47]
abbrev c9:ESh :=.cell [ii,.str,ii,ii,.row 4]
abbrev c10:ESh :=.cell [.str,ii,ii,.nils,.nils]
abbrev c11:ESh :=.cell [ii]
abbrev c12:ESh :=.cell [.val 175]
abbrev c14:ESh :=.cell [ii,ii,.str,.str,.str,ii,.str,ii,.row 3,ii,.bool]
abbrev c15:ESh :=.cell [.sl 49,.sl 80,.row 1,ii,.pnil]
abbrev c16:ESh :=.cell [.str,ii,ii,.row 1,.row 2]
abbrev c17:ESh :=.cell [.str,.nils,.str,ii,ii]
abbrev c18:ESh :=.cell [ii,.str,ii,ii,.row 3]
abbrev c19:ESh :=.cell [.nils,.nils,.nils,.nils,.nils,.nils]
abbrev c20:ESh :=.cell [.val 71]
abbrev c21:ESh :=.cell [.val 163]
abbrev c23:ESh :=.cell [.str]
abbrev c24:ESh :=.cell [.row 1]
abbrev c25:ESh :=.cell [.str,ii,.nils]
abbrev c26:ESh :=.cell [.str,ii,ii,.row 2,.nils]
abbrev c28:ESh :=.cell [.nils]
abbrev c29:ESh :=.cell [.row 5,.sl 80,.row 1,.row 6,.sl 171,.row 3]
abbrev c30:ESh :=.cell [.str,ii,ii,.row 6,.nils]
abbrev c31:ESh :=.cell [.str,ii,ii,.row 2,.row 3]
abbrev c32:ESh :=.cell [.str,ii,ii,.row 6,.row 7]
abbrev c33:ESh :=.cell [.str,ii,ii,.row 5,.nils]
abbrev c34:ESh :=.cell [.str,.row 3,.str,ii,ii]
abbrev c35:ESh :=.cell [.val 30]
abbrev c36:ESh :=.cell [.sl 49,.sl 80,.row 5,ii,.pnil]
abbrev c37:ESh :=.cell [.str,.row 3,.nils]
abbrev c38:ESh :=.cell [ii,.str,ii,ii,.row 2]
abbrev c39:ESh :=.cell [.str,.nils,.nils]
abbrev c40:ESh :=.cell [.row 4]
abbrev c41:ESh :=.cell [.row 3,ii,ii,ii,ii]
abbrev c42:ESh :=.cell [.val 104]
abbrev c43:ESh :=.cell [.str,ii,ii,.row 7,.nils]
abbrev c44:ESh :=.cell [.str,.row 4,.str,ii,ii]
abbrev c45:ESh :=.cell [.str,.row 5,.str,ii,ii]
abbrev c46:ESh :=.cell [.nils,.nils,.nils,.nils]
abbrev c47:ESh :=.cell [.row 2]
abbrev c48:ESh :=.cell [.str,ii,.row 5]
abbrev c50:ESh :=.cell [.str,ii,ii,.row 4,.nils]
abbrev c51:ESh :=.cell [.row 3]
abbrev c52:ESh :=.cell [ii,.str,ii,ii,.row 5]
abbrev c53:ESh :=.cell [.str,ii,.row 7]
abbrev c55:ESh :=.cell [.str,ii,.nx 2 53]
abbrev c56:ESh :=.cell [.str,ii,.row 6]
abbrev c57:ESh :=.cell [ii,ii]
abbrev HN:=XK×Sig
abbrev HO:=List (XK×Sig)
abbrev HP:=List ESh
abbrev HQ:=List (Nat×Sh)
def Ja:HN:=(.pan (.ifc 97 (.agg [ii,ii])),⟨[],[c2]⟩)
def Jb:HO:=[(.normal,⟨[(4,.bool)],[]⟩)]
def J0:HP:=[c0,.forow 53]
def Jc:HN:=(.pan (.ifc 112 (.agg [ii,ii])),⟨[],J0⟩)
def Hm:Sig:=⟨[],[c0,.orow 53]⟩
def JA:HN:=(.pan (.ifc 112 (.agg [ii,ii])),Hm)
def JL:Sig:=⟨[(0,.pc 0 0),(4,.pc 2 0),(11,.sl 35),(12,ii),(13,ii)],[c0,.orow 53,c8]⟩
def Jd:HO:=[JA,(.normal,JL)]
def Je:HN:=(.normal,⟨[(0,.pc 0 0),(2,.pc 1 0),(3,.pc 2 0)],[c2,c1,c1]⟩)
def Jf:HO:=[(.ret,⟨[(0,.agg [ii,.str,ii,ii,.row 2])],[c3,.row 163,.row 86]⟩)]
def Jz:HP:=[c3,.row 163,c1,c9,.row 86]
def Jg:HN:=(.normal,⟨[(0,.pc 0 0),(2,.pc 2 0),(5,.pc 3 0)],Jz⟩)
def Jh:HN:=(.pan (.ifc 112 (.agg [ii,ii])),⟨[(6,.pc 1 0),(7,.pc 2 0),(8,.pc 3 0)],[c5,c28,c11,c11]⟩)
def Ji:HN:=(.ret,⟨[(0,.agg [ii,.str,ii,ii,.row 1])],[c2,.row 35]⟩)
def Kv:HP:=[c16,.row 214,.row 275]
def Jj:HN:=(.pan (.ifc 151 (.agg [ii,ii])),⟨[],Kv⟩)
def Jk:Sig:=⟨[(0,.pc 0 0)],[c3,.row 163]⟩
def Jl:HN:=(.normal,⟨[(0,.pc 0 0),(4,.pc 2 0)],[c24,.row 71,c14,.row 68]⟩)
def H8:HP:=[c18,c11,c11,.row 35]
def KF:Sig:=⟨[(2,.pc 0 0),(3,.pc 1 0),(4,.pc 2 0)],H8⟩
def Jm:HO:=[(.pan (.ifc 97 (.agg [ii,ii])),KF),(.normal,⟨[(2,.pc 0 0),(3,.pc 1 0),(4,.pc 2 0),(6,.pc 3 0)],[c9,c11,c11,c2,.row 35]⟩)]
def Jn:HN:=(.normal,⟨[(0,.pc 0 0),(2,.pc 1 0)],[c2,c1]⟩)
def Jo:HN:=(.ret,⟨[(4,.pc 1 0),(5,ii),(6,ii)],[.row 171,c26,.row 228]⟩)
def Jp:HO:=[(.ret,⟨[(0,.bool)],[]⟩)]
def Jq:HO:=[(.normal,⟨[(29,.bool)],[]⟩)]
def Jr:Sig:=⟨[(2,.pc 1 0)],[c2,c5]⟩
def Hq:HP:=[c15,.forow 53]
def Js:HN:=(.pan (.ifc 112 (.agg [ii,ii])),⟨[],Hq⟩)
def Jt:Sig:=⟨[(0,.pc 0 0)],[c2]⟩
def Ju:HO:=[(.ret,⟨[(0,ii)],[]⟩)]
def Jv:HO:=[(.normal,⟨[(0,.pc 0 0),(6,.pc 2 0)],[c24,.row 71,c14,.row 68]⟩)]
def Jw:HN:=(.ret,⟨[(4,.pc 0 0),(5,ii),(6,ii)],[c17]⟩)
def Jx:Sig:=⟨[(3,.pc 0 0),(6,.pc 1 0),(7,.pc 2 0),(8,.pc 3 0),(9,.pc 4 0),(20,.sl 35),(21,ii),(22,ii)],[c5,c28,c11,c11,c36,.orow 53]⟩
def Jy:Sig:=⟨[(0,.str),(1,ii),(4,.pc 0 0),(6,.pc 1 0),(7,ii),(13,ii),(14,.bool)],[c21,c21]⟩
def HE:HP:=[c3,.row 163,c1,c1]
def J1:Sig:=⟨[(0,.pc 0 0),(2,.pc 2 0),(3,.pc 3 0)],HE⟩
def J2:HN:=(.pan (.ifc 151 (.agg [ii,ii])),⟨[],[]⟩)
def J3:HO:=[(.normal,⟨[(1,.sl 171),(2,.pc 0 0),(4,.pc 1 0),(6,.pc 2 0)],[c7,c12,c12]⟩)]
def HL:HP:=[c16,.row 214,.row 275,c5,c57]
def J4:Sig:=⟨[(0,.pc 0 0),(2,.sl 35),(4,.pc 3 0),(6,.pc 4 0),(11,.sl 35),(12,ii),(13,ii)],HL⟩
def J5:HN:=(.normal,⟨[(4,.pc 1 0),(7,.row 2),(8,.row 3),(10,.pc 4 0),(16,ii)],[.row 171,c10,.row 86,.row 86,c33,.row 228]⟩)
def J6:HN:=(.normal,⟨[(0,.str),(5,.row 0),(6,ii),(7,.pc 1 0),(8,ii)],[.row 104,c42]⟩)
def J7:Sig:=⟨[(2,.pc 0 0),(8,.pc 1 0),(9,.pc 2 0)],[c1,c41,c9,.row 163,.row 86]⟩
def J8:HP:=[.row 171,c10,.row 86,.row 86,c7,c30,.row 228]
def HA:HP:=[c0,.forow 53,c8,c8]
def J9:HN:=(.normal,⟨[(0,.pc 0 0),(4,.pc 2 0),(5,.pc 3 0)],HA⟩)
def KC:Sig:=⟨[(2,.pc 1 0),(3,.pc 2 0),(4,.pc 3 0)],[c5,c40,c11,c11,.row 80]⟩
def JB:HO:=[(.pan (.ifc 151 (.agg [ii,ii])),KC),(.normal,⟨[(2,.pc 1 0),(3,.pc 2 0),(4,.pc 3 0),(9,.sl 35),(10,ii),(11,ii)],[c5,c40,c11,c11,.row 80]⟩)]
def JC:Sig:=⟨[(2,.pc 0 0),(3,.pc 1 0),(4,.pc 2 0),(17,.sl 35),(18,ii),(19,ii)],[c39,c37,c40,.row 9,.row 71]⟩
def JD:HN:=(.ret,⟨[(2,.nils),(3,ii),(4,ii)],[]⟩)
def JE:HQ:=[(0,.pc 0 0),(1,.val 35)]
def JF:HP:=[.row 171,c10,.row 86,.row 86,c32,.row 3,.row 228,.row 231]
def JG:Sig:=⟨[(2,.pc 0 0),(9,ii),(10,.row 1),(12,ii),(13,.pc 2 0),(19,.row 3),(22,.pc 4 0),(72,.sl 35),(73,ii),(74,ii)],[c19,.row 49,c7,.row 177,c29,.row 35,.row 86]⟩
def JH:Sig:=⟨[(0,.sl 80),(3,.pc 0 0),(4,.pc 1 0),(5,.sl 35),(6,.row 2),(7,.pc 3 0),(9,.pc 4 0),(10,ii),(33,.sl 35),(34,ii),(35,ii)],[c5,c10,.row 35,c33,c5,.row 214]⟩
def JI:Sig:=⟨[],[c47,.gone,.row 71]⟩
def JJ:Sig:=⟨[(6,.pc 1 0),(7,.pc 2 0),(8,.pc 3 0),(9,.pc 4 0),(46,.sl 35),(47,ii),(48,ii)],[c5,c28,c11,c11,.cell [.sl 49,.sl 80,.row 5,ii,.pr 5 53 0],.orow 53]⟩
def JK:Sig:=⟨[(4,.pc 1 0),(7,.row 2),(8,.row 3),(10,.pc 4 0),(16,ii),(17,ii)],[.row 171,c10,.row 86,.row 86,.cell [.str,ii,ii,.row 5,.row 6],.row 228,.row 231]⟩
def JM:HO:=[(.ret,⟨[(0,.val 86)],[c3,.row 163]⟩)]
def JN:Sig:=⟨[(0,.str)],[]⟩
def JO:HO:=[(.ret,⟨[(4,ii)],[c23]⟩),(.exit 0,⟨[],[c23]⟩)]
def JP:Sig:=⟨[(0,.pc 0 0),(1,ii)],[c2]⟩
def JQ:HQ:=[(0,.str),(5,.row 0),(6,ii)]
def JR:Sig:=⟨[(2,.row 0),(3,.row 1),(7,.sl 35),(8,ii),(9,ii)],[.row 35,.row 35]⟩
def JS:HP:=[c2,c1,c18,.row 35]
def JT:Sig:=⟨[(0,.val 35)],[]⟩
def JU:Sig:=⟨[(0,.sl 80),(3,.pc 0 0),(4,.pc 1 0),(5,.sl 35),(6,.row 2),(7,.pc 3 0),(33,.sl 35),(34,ii),(35,ii)],[c5,c10,.row 35,c50,.row 214]⟩
def JV:HN:=(.ret,⟨[(4,.pc 1 0),(5,ii),(6,ii)],[.row 171,c31,.row 228,.row 231]⟩)
def JW:HN:=(.ret,⟨[(0,.val 35)],[c2]⟩)
def JX:HN:=(.ret,⟨[(0,.row 1)],[c2,.row 35]⟩)
def JY:HP:=[.row 171,c10,.row 86,.row 86,c7,c43,c7,.row 228]
def JZ:HQ:=[(0,.row 0),(1,ii),(2,ii)]
def Ka:Sig:=⟨[(1,.sl 80),(2,.pc 0 0),(4,.pc 1 0),(7,.pc 2 0),(8,ii),(11,.pc 3 0),(29,.sl 35),(30,ii),(31,ii)],[c5,c17,c44,c8,.row 47]⟩
def Kb:Sig:=⟨[(0,.pc 0 0),(3,.pc 2 0),(4,.pc 3 0),(5,ii),(6,.pc 4 0),(27,.sl 35),(28,ii),(29,ii)],[c15,.forow 53,c5,c25,c48,.row 47]⟩
def Kc:HN:=(.ret,⟨[(4,.pc 2 0)],[c0,.forow 53,c8]⟩)
def Kd:HO:=[(.ret,⟨[(0,.bool)],[c23]⟩)]
def Ke:HO:=[(.normal,⟨[(2,.bool)],[]⟩)]
def Kf:HQ:=[(0,.pc 0 0),(1,.str)]
def Kg:HN:=(.ret,⟨[(4,.nils),(5,ii),(6,ii)],[]⟩)
def Kh:HN:=(.exit 0,⟨[(5,.row 1)],[c2,.row 35]⟩)
def Ki:Sig:=⟨[(0,.int .u8)],[]⟩
def Kj:Sig:=⟨[(4,.pc 1 0),(7,.row 2),(8,.row 3),(10,.pc 4 0),(16,ii),(17,ii),(18,.row 5),(19,ii)],JF⟩
def Kk:Sig:=⟨[(1,.sl 171),(2,.pc 0 0),(4,.pc 1 0),(7,.pc 2 0),(8,ii),(9,ii)],[c7,c17,c34,.row 175]⟩
def Kl:Sig:=⟨[(5,.pc 0 0),(7,.pc 1 0),(10,.row 2),(55,.row 2),(56,ii),(57,ii)],[c35,c5,.orow 53]⟩
def Km:Sig:=⟨[(0,.pc 0 0),(4,.pc 2 0),(5,.pc 3 0)],Jz⟩
def Kn:HN:=(.normal,⟨[(0,.pc 0 0),(4,.pc 1 0),(5,.pc 2 0)],JS⟩)
def Ko:Sig:=⟨[(0,.row 0),(4,.pc 1 0),(7,.row 2),(8,.row 3),(9,.pc 4 0),(10,.pc 5 0),(12,ii)],J8⟩
def Kq:HO:=[(.ret,⟨[(4,ii)],[]⟩),(.exit 0,⟨[],[]⟩)]
def Kr:HQ:=[(0,.pc 0 0),(1,.pc 1 0),(2,.pc 2 0),(3,.nili)]
def Ks:Sig:=⟨[(0,.pc 0 0),(1,ii)],[c3,.row 163]⟩
def Kt:Sig:=⟨[(0,.pc 0 0),(2,.pc 1 0),(3,.pc 2 0),(69,.pc 3 0)],[c2,c1,c1,.cell []]⟩
def Ku:HN:=(.normal,⟨[(2,.pc 1 0),(3,.pc 2 0)],JS⟩)
def Kx:HN:=(.ret,⟨[(2,.pc 1 0)],[c2,c38,.row 35]⟩)
def Ky:HO:=[(.ret,⟨[(0,ii)],[c23]⟩)]
def Kz:HO:=[(.normal,⟨[(0,.str),(1,ii),(2,ii),(3,ii),(4,ii),(11,.row 0)],[.row 231]⟩)]
def KD:Sig:=⟨[(1,.sl 80),(7,.row 0),(14,.sl 35),(15,ii),(16,ii)],[.row 49]⟩
def KE:HO:=[(.normal,⟨[(0,.pc 0 0),(2,.pc 1 0),(3,.pc 2 0),(18,.bool)],[c2,c1,c1]⟩)]
def KG:Sig:=⟨[(0,.val 86),(1,.sl 171)],[]⟩
def KH:Sig:=⟨[(0,.str),(1,ii),(4,.pc 0 0),(6,.pc 1 0),(7,ii)],[c21,c21]⟩
def KI:Sig:=⟨[(1,.sl 171),(2,.pc 0 0),(7,.row 1),(8,ii)],[c7,.row 177]⟩
def KJ:Sig:=⟨[(0,.val 35),(1,.sl 80)],[]⟩
def KK:Sig:=⟨[(0,.str),(1,ii),(2,ii)],[]⟩
def KL:Sig:=⟨[],[c3,.row 163]⟩
def KM:HO:=[(.ret,⟨[(4,ii)],[.row 47,c8]⟩),(.exit 0,⟨[],[.row 47,c8]⟩)]
def KO:Sig:=⟨[(1,ii),(2,.pc 0 0),(5,.row 1),(6,ii)],[c7,.row 86]⟩
def KP:Sig:=⟨[(0,.pc 0 0),(4,.pc 2 0),(5,.pc 3 0),(7,.bool)],Jz⟩
def KQ:Sig:=⟨[(0,.pc 0 0),(4,.pc 2 0),(5,.pc 3 0),(6,.bool)],Jz⟩
def KR:Sig:=⟨[(0,.row 0),(1,.clo 103 [.pc 1 0])],[.row 47,c8]⟩
def KT:Sig:=⟨[(0,.row 0),(1,.clo 101 [.pc 1 0])],[.row 47,c8]⟩
def KU:Sig:=⟨[(0,.pc 0 0),(3,.pc 1 0),(4,.pc 2 0)],[c2,c5,c1]⟩
def KV:Sig:=⟨[(0,.str),(1,.str)],[]⟩
def KW:HN:=(.ret,⟨[],J0⟩)
def KX:HP:=[c5,c28,c11,c11,.cell [.sl 49,.sl 80,.row 5,ii,.und],.orow 53]
def KY:Sig:=⟨[(1,.pc 0 0),(5,.row 1),(6,ii)],[c7,.row 171]⟩
def KZ:HQ:=[(0,.agg [ii,.str,ii,ii,.nils])]
def Ha:HO:=[(.ret,⟨[(10,.row 0)],[.row 275]⟩),(.normal,⟨[],[]⟩)]
def Hb:Sig:=⟨[(0,.str),(1,ii),(2,ii),(3,ii),(4,ii)],[]⟩
def Hc:Sig:=⟨[(0,.sl 35),(1,.clo 136 [.pc 0 0])],[c23]⟩
def He:HN:=(.normal,⟨[],J0⟩)
def Hf:Sig:=⟨[(0,.pc 0 0),(2,.pc 2 0),(3,.pc 3 0)],Jz⟩
def Hg:Sig:=⟨[(0,.pc 0 0),(2,.pc 1 0),(3,.pc 2 0)],JS⟩
def Hh:Sig:=⟨[(2,.pc 2 0)],[c3,.row 163,c18,.row 86]⟩
def Hi:HO:=[(.exit 0,⟨[(1,ii)],[]⟩)]
def Hj:HN:=(.ret,⟨[(0,.val 47)],J0⟩)
def Hk:HP:=[c7,c17,c45,c7,c12,.row 175]
def Hl:Sig:=⟨[(3,.pc 1 0),(4,.pc 2 0)],[c2,c5,c1]⟩
def Hn:Sig:=⟨[(0,.str),(1,ii),(2,.clo 64 [])],[]⟩
def Ho:Sig:=⟨[(0,.str),(1,ii),(2,.clo 60 [])],[]⟩
def Hp:Sig:=⟨[(0,.str),(1,ii),(2,.clo 59 [])],[]⟩
def Hs:HN:=(.ret,⟨[(4,.bool)],[]⟩)
def Ht:HQ:=[(0,.pc 0 0),(4,.pc 2 0),(5,.pc 3 0),(10,.pc 4 0)]
def Hu:Sig:=⟨[(0,.val 35),(1,.pc 0 0)],[c23]⟩
def Hv:HP:=[.forow 53,c5]
def Hw:HQ:=[(4,.pc 0 0),(6,.pc 1 0)]
def Hx:HQ:=[(0,.val 47),(1,.pc 0 0)]
def Hy:Sig:=⟨[(4,.pc 1 0)],[c2,c38,.row 35]⟩
def Hz:HP:=[c51,c11,c11,.forow 53]
def H0:HP:=[c0,.forow 53,c5,c8,c8]
def H3:Sig:=⟨[(4,.pc 0 0),(5,ii)],[c21]⟩
def H4:Sig:=⟨[(0,.bool)],[c3,.row 163]⟩
def H5:Sig:=⟨[(0,.val 104),(1,ii)],[]⟩
def H6:Sig:=⟨[(0,.bool)],[.row 47,c8]⟩
def H7:HP:=[c51,c11,c11,.row 80]
def H9:Sig:=⟨[(0,ii)],[.row 47,c8]⟩
def HB:Sig:=⟨[(0,.str),(1,ii)],[]⟩
def HC:HO:=[(.normal,J1)]
def HD:Sig:=⟨[(0,.val 104)],[c2]⟩
def HF:HP:=[c24,.row 71,c5,c6]
def HG:Sig:=⟨[(0,.val 86)],[]⟩
def HH:Sig:=⟨[(0,.val 68)],[]⟩
def HI:Sig:=⟨[(0,.bool)],[c8]⟩
def HJ:Sig:=⟨[(0,.bool)],[c2]⟩
def HK:HP:=[c35,c5,.orow 53,c55,.obj 0 43]
def HM:HO:=[(.exit 0,⟨[(3,ii)],[]⟩)]
def P0:=spA false [] 59 1 f59 Ki Jp (hfind [])
theorem K0:P0.OK prog:=kA zf (by kernel_rfl)
def P1:=spA false [P0] 58 1 f58 Hp Ju (hfind [(4,.loop Hp Hi),(7,.cut [(.normal,⟨[(0,.str),(1,ii),(2,.clo 59 []),(17,.bool)],[]⟩)])])
theorem K1:P1.OK prog:=kA (za K0 zf) (by kernel_rfl)
def P2:=spA false [] 60 1 f60 Ki Jp (hfind [(3,.cut Ke)])
theorem K2:P2.OK prog:=kA zf (by kernel_rfl)
def P3:=spA false [P2] 58 1 f58 Ho Ju (hfind [(4,.loop Ho Hi),(7,.cut [(.normal,⟨[(0,.str),(1,ii),(2,.clo 60 []),(17,.bool)],[]⟩)])])
theorem K3:P3.OK prog:=kA (za K2 zf) (by kernel_rfl)
def I4:Sig:=KK
def O4:List (XK×Sig):=[(.ret,⟨[(0,ii),(1,.nili)],[]⟩),(.ret,⟨[(0,ii),(1,.ifc 285 (.und))],[]⟩)]
def F4 (x:I4.ty CC):G3 (zi CC O4):=XN x
def P4:Spec CC:=⟨118,2,I4,O4,F4⟩
theorem K4:P4.OK prog:=zhr (fn:=f118) (by kernel_rfl) (by kernel_rfl) (by kernel_rfl) (fun s hs v h w=>Tryz.strconv_ParseInt_10_at64_ok s hs v h w) (fun s hs h w Z hg hw=>by
    obtain ⟨⟨t,p,a⟩,_⟩:=hg
    refine (Tryz.strconv_ParseInt_10_at64_syntax s hs h _ w (hw 0 0 _ a) (.inr ⟨_,_,rfl⟩)).mono ?_
    rintro e w' ⟨N,rfl,_,_,hb⟩
    exact ⟨_,rfl,hb⟩) (fun s hs h w Z hg hw=>by
    obtain ⟨_,t,p,a⟩:=hg
    refine (Tryz.strconv_ParseInt_10_at64_range s hs h _ w (hw 1 0 _ a) (.inr ⟨_,_,rfl⟩)).mono ?_
    rintro e w' ⟨N,rfl,_,_,hb⟩
    exact ⟨_,rfl,hb⟩)
def P5:=spA false [] 62 1 f62 Ki Jp (hfind [(3,.cut Ke)])
theorem K5:P5.OK prog:=kA zf (by kernel_rfl)
def P6:=spA false [P4,P5] 61 2 f61 KK [(.ret,H5)] (hfind [(5,.cut [(.normal,⟨[(0,.str),(1,ii),(2,ii),(6,.pc 0 0),(8,.str),(9,ii),(10,.nili)],[c42]⟩),(.normal,⟨[(0,.str),(1,ii),(2,ii),(6,.pc 0 0),(8,.str),(9,ii),(10,.ifc 285 (.und))],[c42]⟩)])])
theorem K6:P6.OK prog:=kA (za K4 (za K5 zf)) (by kernel_rfl)
def P7:=spA false [P5,P2] 64 1 f64 Ki Jp (hfind [(3,.cut Ke)])
theorem K7:P7.OK prog:=kA (za K5 (za K2 zf)) (by kernel_rfl)
def P8:=spA false [P7] 58 1 f58 Hn Ju (hfind [(4,.loop Hn Hi),(7,.cut [(.normal,⟨[(0,.str),(1,ii),(2,.clo 64 []),(17,.bool)],[]⟩)])])
theorem K8:P8.OK prog:=kA (za K7 zf) (by kernel_rfl)
def P9:=spA false [] 119 1 f119 JN Jp (hfind [(9,.cut Jb),(13,.cut Jb),(17,.cut Jb),(21,.cut Jb),(25,.cut Jb),(29,.cut Jb),(33,.cut Jb),(37,.cut Jb),(41,.cut Jb),(45,.cut Jb),(49,.cut Jb),(53,.cut Jb),(57,.cut Jb),(61,.cut Jb),(65,.cut Jb),(69,.cut Jb),(73,.cut Jb),(77,.cut Jb),(81,.cut Jb)])
theorem K9:P9.OK prog:=kA zf (by kernel_rfl)
def P10:=spA false [P9] 63 2 f63 KK [(.ret,H5)] (hfind [(15,.cut [(.normal,⟨[(6,.pc 0 0),(8,.pc 1 0)],[c42,c42]⟩)])])
theorem K10:P10.OK prog:=kA (za K9 zf) (by kernel_rfl)
def P11:=spA false [] 150 1 f150 KV Jp (hfind [(3,.cut Jb)])
theorem K11:P11.OK prog:=kA zf (by kernel_rfl)
def P12:=spA false [P11] 120 1 f120 KV Jp (hfind [])
theorem K12:P12.OK prog:=kA (za K11 zf) (by kernel_rfl)
def I13:Sig:=⟨[(0,.str),(1,.int .u8)],[]⟩
def O13:List (XK×Sig):=Ju
def F13 (x:I13.ty CC):G3 (zi CC O13):=wE x
def P13:Spec CC:=⟨121,1,I13,O13,F13⟩
theorem K13:P13.OK prog:=zga (fn:=f121) (by kernel_rfl) (by kernel_rfl) (by kernel_rfl) fun s c w=>Tryz.strings_IndexByte s c w
def P14:=spA false [P12,P13] 65 1 f65 JN [(.ret,JN)] (hfind [(6,.loop ⟨[(0,.str),(5,.agg [.str,.str,.str]),(6,ii)],[]⟩ [(.ret,⟨[(2,.str)],[]⟩),(.exit 0,JN)])])
theorem K14:P14.OK prog:=kA (za K12 (za K13 zf)) (by kernel_rfl)
def P15:=spA false [P1,P2,P3,P6,P5,P8,P10,P14] 23 3 f23 JN [(.ret,⟨JZ,[.row 104]⟩)] (hfind [(2,.cut [(.ret,⟨[(2,.row 0),(3,ii),(4,ii)],[.row 104]⟩)]),(19,.loop ⟨JQ,[.row 104]⟩ [JD,(.exit 0,⟨[(0,.str),(5,.row 0)],[.row 104]⟩)]),(26,.cut [(.normal,⟨JQ,[.row 104]⟩),JD]),(36,.cut [(.normal,⟨[(0,.str),(5,.row 0),(6,ii),(7,.pc 1 0),(8,ii),(9,.int .u8),(29,.bool)],[.row 104,c42]⟩)]),(37,.cut [(.exit 1,⟨JQ,[.row 104]⟩),J6]),(49,.cut [J6]),(53,.cut [J6]),(59,.cut [J6])])
theorem K15:P15.OK prog:=kA (za K1 (za K2 (za K3 (za K6 (za K5 (za K8 (za K10 (za K14 zf)))))))) (by kernel_rfl)
def P16:=spA false [] 25 1 f25 Jt [(.ret,HD)] (hfind [])
theorem K16:P16.OK prog:=kA zf (by kernel_rfl)
def P17:=spA false [P16] 66 1 f66 ⟨Kf,[c2]⟩ [(.ret,HJ)] (hfind [(5,.cut [(.normal,⟨[(4,.bool)],[c2]⟩)])])
theorem K17:P17.OK prog:=kA (za K16 zf) (by kernel_rfl)
def P18:=spA false [P17] 26 1 f26 ⟨Kf,[c2]⟩ [(.ret,HJ)] (hfind [])
theorem K18:P18.OK prog:=kA (za K17 zf) (by kernel_rfl)
def P19:=spA false [P16] 70 0 f70 JP [Ja] (hfind [])
theorem K19:P19.OK prog:=kA (za K16 zf) (by kernel_rfl)
def P20:=spA false [P16,P19] 122 1 f122 JP [Ja,(.ret,HD)] (hfind [])
theorem K20:P20.OK prog:=kA (za K16 (za K19 zf)) (by kernel_rfl)
def P21:=spA false [P20] 67 1 f67 Jt [Ja,(.ret,⟨KZ,[c2]⟩)] (hfind [])
theorem K21:P21.OK prog:=kA (za K20 zf) (by kernel_rfl)
def P22:=spA false [P18,P19] 28 0 f28 ⟨Kf,[c2]⟩ [Ja,(.ret,⟨[],[c2]⟩)] (hfind [])
theorem K22:P22.OK prog:=kA (za K18 (za K19 zf)) (by kernel_rfl)
def P23:=spA false [P16,P18,P22,P21] 71 1 f71 Jt [JW,Ja] (hfind [(14,.cut [Je,Ja]),(20,.cut [Je])])
theorem K23:P23.OK prog:=kA (za K16 (za K18 (za K22 (za K21 zf)))) (by kernel_rfl)
def P24:=spA false [P21,P22,P23] 69 1 f69 Jt [Ja,Ji] (hfind [])
theorem K24:P24.OK prog:=kA (za K21 (za K22 (za K23 zf))) (by kernel_rfl)
def P25:=spA false [P24,P18] 68 1 f68 ⟨[(0,.pc 0 0),(1,.clo 69 [.tup [.pc 0 0]])],[c2]⟩ [Ja,JX] (hfind [(6,.loop ⟨[(0,.pc 0 0),(1,.clo 69 [.tup [.pc 0 0]]),(5,.row 1)],[c2,.row 35]⟩ [Ja,Kh])])
theorem K25:P25.OK prog:=kA (za K24 (za K18 zf)) (by kernel_rfl)
def P26:=spA false [] 152 1 f152 ⟨[(0,.val 35),(1,.pc 0 0)],[c11]⟩ [(.ret,⟨[(0,.val 35)],[c11]⟩)] (hfind [])
theorem K26:P26.OK prog:=kA zf (by kernel_rfl)
def P27:=spA false [P22] 153 1 f153 ⟨JE,[c2]⟩ [Ja,JW] (hfind [])
theorem K27:P27.OK prog:=kA (za K22 zf) (by kernel_rfl)
def P28:=spA false [P20] 158 1 f158 JP [Ja,(.ret,⟨[(0,ii)],[c2]⟩)] (hfind [])
theorem K28:P28.OK prog:=kA (za K20 zf) (by kernel_rfl)
def P29:=spA false [P21,P22,P28] 154 1 f154 JP [Ja,(.ret,⟨KZ,[c2]⟩)] (hfind [])
theorem K29:P29.OK prog:=kA (za K21 (za K22 (za K28 zf))) (by kernel_rfl)
def P30:=spA false [P18,P28] 159 1 f159 ⟨JE,[c2]⟩ [Ja,JW] (hfind [(6,.cut [Ja,(.normal,Hl)]),(10,.cut [Ja,(.normal,Hl)])])
theorem K30:P30.OK prog:=kA (za K18 (za K28 zf)) (by kernel_rfl)
def P31:=spA false [P16,P28,P18,P21,P30] 124 1 f124 Jt [Ja,JW] (hfind [(8,.cut [Ja,(.ret,⟨[(2,.pc 1 0)],[c2,c1]⟩),Jn]),(20,.cut [Ja,(.normal,Jr)])])
theorem K31:P31.OK prog:=kA (za K16 (za K28 (za K18 (za K21 (za K30 zf))))) (by kernel_rfl)
def P32:=spA false [P18,P19] 125 1 f125 Jt [(.ret,⟨[(0,.str)],[c2]⟩),Ja] (hfind [(6,.loop ⟨[(0,.pc 0 0),(5,.agg [.str,.str,.str]),(6,ii)],[c2]⟩ [(.ret,⟨[(2,.str)],[c2]⟩),(.exit 0,Jt)])])
theorem K32:P32.OK prog:=kA (za K18 (za K19 zf)) (by kernel_rfl)
def P33:=spA false [P31,P32] 75 1 f75 Jt [Ja,Ji] (hfind [(7,.draw (od [1,3,5,7,9,10,12,15,16]) [])])
theorem K33:P33.OK prog:=kA (za K31 (za K32 zf)) (by kernel_rfl)
def P34:=spA false [P31,P18] 68 1 f68 ⟨[(0,.pc 0 0),(1,.clo 124 [.tup [.pc 0 0]])],[c2]⟩ [Ja,JX] (hfind [(6,.loop ⟨[(0,.pc 0 0),(1,.clo 124 [.tup [.pc 0 0]]),(5,.row 1)],[c2,.row 35]⟩ [Ja,Kh])])
theorem K34:P34.OK prog:=kA (za K31 (za K18 zf)) (by kernel_rfl)
def P35:=spA false [P22,P18,P34] 156 1 f156 Jt [Ja,JX] (hfind [])
theorem K35:P35.OK prog:=kA (za K22 (za K18 (za K34 zf))) (by kernel_rfl)
def I36:Sig:=Jt
def O36:List (XK×Sig):=[Ja,JW]
def H36:Nat->G3 Hint:=hfind [(8,.cut [Ja,(.ret,Jr),Je]),(16,.cut [Ja,(.ret,Jr),Je]),(24,.cut [Ja,(.ret,Jr),Je]),(30,.cut [Je]),(51,.cut [Ja,Kx,Je]),(59,.cut [Ja,Kx,Je]),(69,.cut [Ja,Kx,Je]),(70,.loop Kt []),(83,.cut [(.normal,⟨[(0,.pc 0 0),(2,.pc 1 0),(3,.pc 2 0),(4,.str),(5,ii),(69,.pc 3 0),(87,.bool)],[c2,c1,c1,.cell []]⟩)]),(84,.cut [(.pan (.ifc 97 (.agg [ii,ii])),⟨[],[c2,c1,c1,.cell []]⟩),(.ret,⟨[(2,.pc 1 0)],[c2,c9,c1,.cell [],.row 35]⟩),(.normal,Kt)]),(88,.draw (od [1,3,5,7,9,10,12,15,16]) [])]
def F36 (x:I36.ty CC):G3 (zi CC O36):=zmr ⟨false⟩ [P16,P18,P28,P21,P31,P17,P35,P22,P30] lpO prog f180 1 I36 O36 H36 x
def P36:Spec CC:=⟨180,1,I36,O36,F36⟩
theorem K36:Spec.OK prog P36:=ztS (za K16 (za K18 (za K28 (za K21 (za K31 (za K17 (za K35 (za K22 (za K30 zf))))))))) ZQ ZO H36 (by kernel_rfl) (by kernel_rfl) (by kernel_rfl) fun x=>rfl
def P37:=spA false [P17,P35,P18,P31,P22,P36] 157 1 f157 ⟨JE,[c2]⟩ [Ja,Ji] (hfind [(6,.cut [Ja,(.ret,Hy),(.normal,KU)]),(16,.cut [Ja,(.ret,Hy),(.normal,KU)]),(24,.draw (od [1,3,5,6,8,10,13,14]) [])])
theorem K37:P37.OK prog:=kA (za K17 (za K35 (za K18 (za K31 (za K22 (za K36 zf)))))) (by kernel_rfl)
def I38:Sig:=⟨[(0,.pc 0 0),(1,ii),(2,ii)],[c2]⟩
def O38:List (XK×Sig):=[Ja,Ji]
def H38:Nat->G3 Hint:=hfind [(7,.draw (od [1,3,5,6,8,10,13,14]) [])]
def I39:Sig:=Jt
def O39:List (XK×Sig):=[Ja,JW]
def H39:Nat->G3 Hint:=hfind [(10,.cut [Ja,(.ret,Jr),Jn]),(20,.cut [Ja,(.ret,Jr),Jn]),(22,.cut [Ja,(.normal,Jr)]),(26,.cut [Ja,(.ret,Jr),Jn]),(28,.cut [Ja,(.normal,Jr)]),(32,.cut [Ja,(.ret,Jr),Jn]),(38,.cut [Ja,(.normal,⟨[(2,.pc 1 0),(6,.pc 2 0)],JS⟩)]),(39,.draw (od [1,3,5,6,8,10,13,14]) []),(46,.cut [Ja,(.ret,Jr),Jn]),(52,.cut [Ja,(.ret,Jr),Jn]),(58,.cut [Ja,(.normal,⟨[(0,.pc 0 0),(2,.pc 1 0),(7,.pc 2 0)],JS⟩)]),(66,.cut [Ja,(.ret,Jr),Jn]),(72,.cut [Ja,(.ret,Jr),Jn]),(82,.cut [Ja,(.normal,Jr)])]
def I40:Sig:=Jt
def O40:List (XK×Sig):=[Ja,Ji]
def H40:Nat->G3 Hint:=hfind [(6,.cut [(.normal,⟨[(0,.pc 0 0),(2,.pc 1 0),(3,.pc 2 0),(16,.bool)],[c2,c1,c1]⟩)]),(16,.loop Hg [Ja,(.exit 0,Hg)]),(24,.draw (od [1,3,5,6,8,10,13,14]) [])]
def zgj (h:I40.ty CC->G3 (zi CC O40)):Spec CC:=⟨72,1,I40,O40,h⟩
def zmy (h:I40.ty CC->G3 (zi CC O40)) (x:I38.ty CC):G3 (zi CC O38):=wD ⟨false⟩ [P33,zgj h] lpO prog f155 1 I38 O38 H38 x
def zuW (h:I40.ty CC->G3 (zi CC O40)):Spec CC:=⟨155,1,I38,O38,zmy h⟩
theorem zxn {h:I40.ty CC->G3 (zi CC O40)}(hh:Spec.OK prog (zgj h)):Spec.OK prog (zuW h):=yX (za K33 (za hh zf)) ZQ ZO H38 (by kernel_rfl) (by kernel_rfl) (by kernel_rfl) fun x=>rfl
def zmz (h:I40.ty CC->G3 (zi CC O40)) (x:I39.ty CC):G3 (zi CC O39):=wD ⟨false⟩ [P16,P18,P21,P26,P27,P29,zuW h,zgj h,P17,P31,P35,P37] lpO prog f123 1 I39 O39 H39 x
def zuX (h:I40.ty CC->G3 (zi CC O40)):Spec CC:=⟨123,1,I39,O39,zmz h⟩
theorem zxo {h:I40.ty CC->G3 (zi CC O40)}(hh:Spec.OK prog (zgj h)):Spec.OK prog (zuX h):=yX (za K16 (za K18 (za K21 (za K26 (za K27 (za K29 (za (zxn hh) (za hh (za K17 (za K31 (za K35 (za K37 zf)))))))))))) ZQ ZO H39 (by kernel_rfl) (by kernel_rfl) (by kernel_rfl) fun x=>rfl
def zmA (h:I40.ty CC->G3 (zi CC O40)) (x:I40.ty CC):G3 (zi CC O40):=wD ⟨false⟩ [P16,P17,P19,P22,P18,zuX h] lpO prog f72 1 I40 O40 H40 x
def zxp (h:I40.ty CC->G3 (zi CC O40)):Spec CC:=⟨72,1,I40,O40,zmA h⟩
theorem zxq {h:I40.ty CC->G3 (zi CC O40)}(hh:Spec.OK prog (zgj h)):Spec.OK prog (zxp h):=yX (za K16 (za K17 (za K19 (za K22 (za K18 (za (zxo hh) zf)))))) ZQ ZO H40 (by kernel_rfl) (by kernel_rfl) (by kernel_rfl) fun x=>rfl
def zjv:Nat->I40.ty CC->G3 (zi CC O40)
  |0=>fun _=>none
  |k+1=>zmA (zjv k)
theorem zuY:∀ k,Spec.OK prog (zgj (zjv k))
  |0=>⟨f72,by kernel_rfl,by kernel_rfl,by kernel_rfl,fun x r h=>by cases h⟩
  |k+1=>zxq (zuY k)
def F40 (x:I40.ty CC):G3 (zi CC O40):=zjv 100000 x
def P40:Spec CC:=⟨72,1,I40,O40,F40⟩
theorem K40:Spec.OK prog P40:=zuY 100000
def P41:=spA false [P21,P22,P17,P25,P18,P19,P23,P16,P40] 27 1 f27 JP [Ja,Ji] (hfind [(11,.cut [Ja,Kn]),(21,.cut [Ja,(.normal,⟨[(0,.pc 0 0),(4,.pc 1 0),(5,.pc 2 0),(6,.pc 3 0)],[c2,c1,c9,c5,.row 35]⟩)]),(31,.draw (od [1,3,5,7,8,10,12,15,16]) [])])
theorem K41:P41.OK prog:=kA (za K21 (za K22 (za K17 (za K25 (za K18 (za K19 (za K23 (za K16 (za K40 zf))))))))) (by kernel_rfl)
def P42:=spA false [P16,P18,P21,P19] 73 1 f73 Jt [Ji,Ja] (hfind [(9,.cut [(.normal,⟨[(0,.pc 0 0),(2,.pc 1 0),(3,.pc 2 0),(13,.bool)],[c2,c1,c1]⟩)]),(12,.cut [Ku,Ja]),(17,.cut KE),(21,.cut KE),(24,.cut [Ja,Ku])])
theorem K42:P42.OK prog:=kA (za K16 (za K18 (za K21 (za K19 zf)))) (by kernel_rfl)
def P43:=spA false [P21,P18,P22] 74 1 f74 Jt [Ja,Ji] (hfind [(9,.cut [Ja,Ku])])
theorem K43:P43.OK prog:=kA (za K21 (za K18 (za K22 zf))) (by kernel_rfl)
def P44:=spA false [P43,P18] 68 1 f68 ⟨[(0,.pc 0 0),(1,.clo 74 [.tup [.pc 0 0]])],[c2]⟩ [Ja,JX] (hfind [(6,.loop ⟨[(0,.pc 0 0),(1,.clo 74 [.tup [.pc 0 0]]),(5,.row 1)],[c2,.row 35]⟩ [Ja,Kh])])
theorem K44:P44.OK prog:=kA (za K43 (za K18 zf)) (by kernel_rfl)
def P45:=spA false [P33,P18] 68 1 f68 ⟨[(0,.pc 0 0),(1,.clo 75 [.tup [.pc 0 0]])],[c2]⟩ [Ja,JX] (hfind [(6,.loop ⟨[(0,.pc 0 0),(1,.clo 75 [.tup [.pc 0 0]]),(5,.row 1)],[c2,.row 35]⟩ [Ja,Kh])])
theorem K45:P45.OK prog:=kA (za K33 (za K18 zf)) (by kernel_rfl)
def P46:=spA false [P21,P42,P18,P44,P22,P45] 29 1 f29 JP [Ja,Ji] (hfind [(9,.cut [Ja,Kn]),(11,.draw (od [1,3,5,7,9,10,12,15,16]) []),(17,.cut [Ja,Kn]),(18,.draw (od [1,3,5,7,9,10,12,15,16]) [])])
theorem K46:P46.OK prog:=kA (za K21 (za K42 (za K18 (za K44 (za K22 (za K45 zf)))))) (by kernel_rfl)
def I47:Sig:=JT
def O47:List (XK×Sig):=Ju
def H47:Nat->G3 Hint:=hfind [(8,.loop ⟨[(3,ii),(7,.sl 35),(8,ii),(9,ii)],[]⟩ HM)]
def zqE (h:I47.ty CC->G3 (zi CC O47)):Spec CC:=⟨30,1,I47,O47,h⟩
def zmB (h:I47.ty CC->G3 (zi CC O47)) (x:I47.ty CC):G3 (zi CC O47):=wD ⟨false⟩ [zqE h] lpO prog f30 1 I47 O47 H47 x
def zxr (h:I47.ty CC->G3 (zi CC O47)):Spec CC:=⟨30,1,I47,O47,zmB h⟩
theorem zxs {h:I47.ty CC->G3 (zi CC O47)}(hh:Spec.OK prog (zqE h)):Spec.OK prog (zxr h):=yX (za hh zf) ZQ ZO H47 (by kernel_rfl) (by kernel_rfl) (by kernel_rfl) fun x=>rfl
def zjw:Nat->I47.ty CC->G3 (zi CC O47)
  |0=>fun _=>none
  |k+1=>zmB (zjw k)
theorem zuZ:∀ k,Spec.OK prog (zqE (zjw k))
  |0=>⟨f30,by kernel_rfl,by kernel_rfl,by kernel_rfl,fun x r h=>by cases h⟩
  |k+1=>zxs (zuZ k)
def F47 (x:I47.ty CC):G3 (zi CC O47):=zjw 100000 x
def P47:Spec CC:=⟨30,1,I47,O47,F47⟩
theorem K47:Spec.OK prog P47:=zuZ 100000
def I48:Sig:=⟨[(0,.pc 0 0),(1,.pc 1 0),(2,.pc 2 0),(3,.ifc 97 (.agg [ii,ii]))],H8⟩
def O48:List (XK×Sig):=[(.ret,⟨[],[c1,c11,c11,.row 35]⟩)]
def H48:Nat->G3 Hint:=hfind [(5,.draw (od [1,3,5,7,9,10,12,14]) [])]
def F48 (x:I48.ty CC):G3 (zi CC O48):=zbj ⟨false⟩ [] lpO prog f24 0 I48 O48 H48 x
def P48:Spec CC:=⟨24,0,I48,O48,F48⟩
theorem K48:Spec.OKD prog P48:=vu zf ZQ ZO H48 (by kernel_rfl) (by kernel_rfl) (by kernel_rfl) fun x=>rfl
def I49:Sig:=⟨Kr,H8⟩
def O49:List (XK×Sig):=[(.ret,⟨[],H8⟩)]
def H49:Nat->G3 Hint:=hfind []
def F49 (x:I49.ty CC):G3 (zi CC O49):=zbj ⟨false⟩ [] lpO prog f24 0 I49 O49 H49 x
def P49:Spec CC:=⟨24,0,I49,O49,F49⟩
theorem K49:Spec.OKD prog P49:=vu zf ZQ ZO H49 (by kernel_rfl) (by kernel_rfl) (by kernel_rfl) fun x=>rfl
def I50:Sig:=JN
def O50:List (XK×Sig):=[(.ret,⟨[(0,.val 35),(1,ii),(2,ii)],[]⟩)]
def H50:Nat->G3 Hint:=hfind [(9,.draw (od [1,3,5,6,8,10]) []),(13,.loop ⟨[(2,.pc 0 0),(3,.pc 1 0),(4,.pc 2 0),(5,.sl 104),(19,.clo 24 [.pc 0 0,.pc 1 0,.pc 2 0])],[c1,c11,c11]⟩ []),(18,.loop ⟨[(2,.pc 0 0),(3,.pc 1 0),(4,.pc 2 0),(6,.pc 3 0)],[c9,c11,c11,c2,.row 35]⟩ [(.pan (.ifc 97 (.agg [ii,ii])),KF),(.exit 0,KF)]),(25,.cut Jm),(33,.draw (od [1,3,5,7,11,13,8,14,17,21,9366,22,18]) Jm),(38,.draw (od [1,3,5,7,11,13,8,14,17,21,9366,22,18]) Jm)]
def F50 (x:I50.ty CC):G3 (zi CC O50):=zgb ⟨false⟩ [P15,P16,P18,P41,P22,P46,P47] (P49) (P48) lpO prog f7 3 I50 O50 H50 x
def P50:Spec CC:=⟨7,3,I50,O50,F50⟩
theorem K50:Spec.OK prog P50:=zgc (za K15 (za K16 (za K18 (za K41 (za K22 (za K46 (za K47 zf))))))) K49 K48 ZQ ZO H50 (by kernel_rfl) (by kernel_rfl) (by kernel_rfl) fun x=>rfl
def P51:=spA false [] 94 2 f94 JT [(.ret,⟨[(0,.row 0),(1,.row 1)],[.row 35,.row 35]⟩)] (hfind [(6,.loop JR [(.exit 0,⟨[(2,.row 0),(3,.row 1)],[.row 35,.row 35]⟩)]),(22,.cut [(.normal,JR)]),(26,.cut [(.normal,JR)])])
theorem K51:P51.OK prog:=kA zf (by kernel_rfl)
def P52:=spA false [] 127 1 f127 ⟨[(0,.val 80),(1,.pc 0 0)],[c23]⟩ Kd (hfind [])
theorem K52:P52.OK prog:=kA zf (by kernel_rfl)
def P53:=spA false [P52] 126 1 f126 ⟨[(0,.sl 80),(1,.clo 127 [.pc 0 0])],[c23]⟩ Ky (hfind [(6,.loop ⟨[(0,.sl 80),(1,.clo 127 [.pc 0 0]),(7,ii),(8,ii)],[c23]⟩ JO)])
theorem K53:P53.OK prog:=kA (za K52 zf) (by kernel_rfl)
def P54:=spA false [P53] 79 1 f79 ⟨[(0,.sl 80),(1,.str)],[]⟩ Ju (hfind [])
theorem K54:P54.OK prog:=kA (za K53 zf) (by kernel_rfl)
def P55:=spA false [] 95 0 f95 ⟨[(0,.bool),(1,.val 35),(2,ii)],[]⟩ [J2,(.ret,⟨[],[]⟩)] (hfind [])
theorem K55:P55.OK prog:=kA zf (by kernel_rfl)
def P56:=spA false [] 136 1 f136 Hu Kd (hfind [])
theorem K56:P56.OK prog:=kA zf (by kernel_rfl)
def P57:=spA false [P56] 137 1 f137 Hc Ky (hfind [(6,.loop ⟨[(0,.sl 35),(1,.clo 136 [.pc 0 0]),(7,ii),(8,ii)],[c23]⟩ JO)])
theorem K57:P57.OK prog:=kA (za K56 zf) (by kernel_rfl)
def P58:=spA false [P57] 135 1 f135 Hc Kd (hfind [])
theorem K58:P58.OK prog:=kA (za K57 zf) (by kernel_rfl)
def P59:=spA false [P58] 96 1 f96 ⟨[(0,.sl 35),(1,.str)],[]⟩ Jp (hfind [])
theorem K59:P59.OK prog:=kA (za K58 zf) (by kernel_rfl)
def P60:=spA false [] 138 1 f138 Hu Kd (hfind [(3,.cut [(.normal,⟨[(3,.bool)],[c23]⟩)])])
theorem K60:P60.OK prog:=kA zf (by kernel_rfl)
def P61:=spA false [P60] 137 1 f137 ⟨[(0,.sl 35),(1,.clo 138 [.pc 0 0])],[c23]⟩ Ky (hfind [(6,.loop ⟨[(0,.sl 35),(1,.clo 138 [.pc 0 0]),(7,ii),(8,ii)],[c23]⟩ JO)])
theorem K61:P61.OK prog:=kA (za K60 zf) (by kernel_rfl)
def P62:=spA false [P61] 97 1 f97 ⟨[(0,.val 80),(1,.str),(2,.sl 35)],[]⟩ Ju (hfind [])
theorem K62:P62.OK prog:=kA (za K61 zf) (by kernel_rfl)
def P63:=spA false [] 139 1 f139 ⟨[(0,.sl 9),(1,.str)],[]⟩ Ju (hfind [(6,.loop ⟨[(0,.sl 9),(1,.str),(7,ii),(8,ii)],[]⟩ Kq)])
theorem K63:P63.OK prog:=kA zf (by kernel_rfl)
def P64:=spA false [P63,P62,P55,P54] 98 0 f98 ⟨[(0,.sl 80),(1,.pc 0 0),(2,.val 35),(3,.sl 35),(4,.sl 35)],Kv⟩ [Jj,(.ret,⟨[],Kv⟩)] (hfind [(10,.cut [(.normal,⟨[(0,.sl 80),(1,.pc 0 0),(3,.sl 35),(4,.sl 35),(7,.pc 3 0),(20,ii),(21,.bool)],[c16,.row 214,.row 275,c5]⟩)]),(13,.cut [Jj,(.normal,⟨[],Kv⟩)]),(15,.draw (od [1,3,5,7,9,11,13,15,17,19,20,23,25,26]) []),(16,.draw (od [1,3,5,7,9,11,12]) []),(19,.cut [Jj,(.normal,⟨[],Kv⟩)]),(23,.draw (od [1,3,5,7,9,11,13,15,17,19,21,23,25,27,29,31,33,34]) [Jj,(.normal,⟨[(3,.sl 35),(4,.sl 35),(7,.pc 3 0)],[c16,.row 214,.row 275,c5]⟩)])])
theorem K64:P64.OK prog:=kA (za K63 (za K62 (za K55 (za K54 zf)))) (by kernel_rfl)
def P65:=spA false [] 140 1 f140 Hb [(.ret,⟨[(0,.row 0)],[.row 275]⟩)] (hfind [(8,.cut Ha),(14,.cut Ha)])
theorem K65:P65.OK prog:=kA zf (by kernel_rfl)
def P66:=spA false [P62,P55,P65] 99 0 f99 ⟨[(0,.pc 0 0),(1,.val 35),(2,.sl 35)],Kv⟩ [Jj,(.ret,⟨[],[.cell [.str,ii,ii,.row 1,.row 3],.row 214,.gone,.row 275]⟩)] (hfind [(8,.loop J4 [Jj,(.exit 0,⟨[(0,.pc 0 0),(4,.pc 3 0),(6,.pc 4 0)],HL⟩)]),(16,.cut [(.normal,J4),Jj]),(26,.draw (od [1,3,5,7,9,11,12,15]) []),(28,.draw (od [1,3,5,7,9,11,13,15,17,19,21,23,25,27,29,31,33,35,37,39,41,43,45,47,49,51,52]) [Jj,(.normal,⟨[(0,.pc 0 0),(2,.sl 35),(4,.pc 3 0),(6,.pc 4 0),(7,ii),(9,ii),(11,.sl 35),(12,ii),(13,ii)],HL⟩)]),(29,.cut [(.normal,J4)]),(31,.draw (od [1,3,5,7,9,11,13,15,17,19,21,23,25,27,29,31,33,35,37,39,41,42,44,47,49,50]) [])])
theorem K66:P66.OK prog:=kA (za K62 (za K55 (za K65 zf))) (by kernel_rfl)
def P67:=spA true [P51,P54,P55,P59,P62,P64,P66] 48 1 f48 ⟨[(0,.sl 80),(1,.val 35)],[]⟩ [J2,(.ret,⟨[(0,.agg [.str,ii,ii,.row 0,.row 1])],[.row 214,.row 275]⟩)] (hfind [(7,.draw (od [1,3,5,11,6,9,12]) []),(14,.loop JU [J2,(.exit 0,⟨[(0,.sl 80),(3,.pc 0 0),(4,.pc 1 0),(5,.sl 35),(6,.row 2),(7,.pc 3 0)],[c5,c10,.row 35,c50,.row 214]⟩)]),(22,.cut [J2,(.normal,JU)]),(26,.draw (od [1,3,5,7,9,15,10,13,16]) []),(32,.cut [J2,(.normal,JH)]),(34,.draw (od [1,3,5,7,9,11,13,14,17]) []),(35,.draw (od [1,3,5,7,9,11,13,15,17,19,21,22]) [J2,(.normal,JH)]),(45,.loop ⟨[(4,.pc 0 0),(5,.sl 35),(7,.pc 1 0),(91,.sl 35),(92,ii),(93,ii)],[c10,c31,.row 214,.row 275]⟩ [J2,(.exit 2,⟨[(4,.pc 0 0),(7,.pc 1 0)],[c10,c31,.row 214,.row 275]⟩)])])
theorem K67:P67.OK prog:=kA (za K51 (za K54 (za K55 (za K59 (za K62 (za K64 (za K66 zf))))))) (by kernel_rfl)
def I68:Sig:=⟨[(0,.pc 0 0),(1,.pc 1 0),(2,.pc 2 0),(3,.ifc 151 (.agg [ii,ii]))],H7⟩
def O68:List (XK×Sig):=[(.ret,⟨[],[c28,c11,c11,.row 80]⟩)]
def H68:Nat->G3 Hint:=hfind [(5,.draw (od [1,3,5,7,8,10,12]) [])]
def F68 (x:I68.ty CC):G3 (zi CC O68):=zbj ⟨false⟩ [] lpO prog f47 0 I68 O68 H68 x
def P68:Spec CC:=⟨47,0,I68,O68,F68⟩
theorem K68:Spec.OKD prog P68:=vu zf ZQ ZO H68 (by kernel_rfl) (by kernel_rfl) (by kernel_rfl) fun x=>rfl
def I69:Sig:=⟨Kr,H7⟩
def O69:List (XK×Sig):=[(.ret,⟨[],H7⟩)]
def H69:Nat->G3 Hint:=hfind []
def F69 (x:I69.ty CC):G3 (zi CC O69):=zbj ⟨false⟩ [] lpO prog f47 0 I69 O69 H69 x
def P69:Spec CC:=⟨47,0,I69,O69,F69⟩
theorem K69:Spec.OKD prog P69:=vu zf ZQ ZO H69 (by kernel_rfl) (by kernel_rfl) (by kernel_rfl) fun x=>rfl
def I70:Sig:=JT
def O70:List (XK×Sig):=[(.ret,⟨JZ,[.row 80]⟩)]
def H70:Nat->G3 Hint:=hfind [(3,.loop ⟨[(1,.pc 0 0),(2,.pc 1 0),(3,.pc 2 0),(4,.pc 3 0),(7,.clo 47 [.pc 1 0,.pc 2 0,.pc 3 0])],[c5,c28,c11,c11]⟩ []),(8,.loop ⟨[(2,.pc 1 0),(3,.pc 2 0),(4,.pc 3 0),(9,.sl 35),(10,ii),(11,ii)],[c5,c40,c11,c11,.row 80]⟩ [(.pan (.ifc 151 (.agg [ii,ii])),KC),(.exit 0,KC)]),(21,.cut JB),(22,.draw (od [3,5,8198,8200,8,0,10,12,6,8,10,12]) JB)]
def F70 (x:I70.ty CC):G3 (zi CC O70):=zgb ⟨false⟩ [P67] (P69) (P68) lpO prog f18 3 I70 O70 H70 x
def P70:Spec CC:=⟨18,3,I70,O70,F70⟩
theorem K70:Spec.OK prog P70:=zgc (za K67 zf) K69 K68 ZQ ZO H70 (by kernel_rfl) (by kernel_rfl) (by kernel_rfl) fun x=>rfl
def P71:=spA false [P63,P54] 100 2 f100 KJ [(.ret,⟨[(0,.val 47),(1,ii)],[]⟩)] (hfind [(7,.cut [(.ret,⟨[(4,.pc 0 0),(5,ii)],[c8]⟩),(.normal,⟨Hw,[c8,c8]⟩)])])
theorem K71:P71.OK prog:=kA (za K63 (za K54 zf)) (by kernel_rfl)
def P72:=spA false [] 101 1 f101 ⟨Hx,[c8]⟩ [(.ret,HI)] (hfind [])
theorem K72:P72.OK prog:=kA zf (by kernel_rfl)
def P73:=spA false [P72] 76 1 f76 KT [(.ret,H9)] (hfind [(6,.loop ⟨[(0,.row 0),(1,.clo 101 [.pc 1 0]),(7,ii),(8,ii)],[.row 47,c8]⟩ KM)])
theorem K73:P73.OK prog:=kA (za K72 zf) (by kernel_rfl)
def P74:=spA false [P73] 41 1 f41 KT [(.ret,H6)] (hfind [])
theorem K74:P74.OK prog:=kA (za K73 zf) (by kernel_rfl)
def P75:=spA false [] 102 1 f102 ⟨[(0,.val 47),(1,.sl 80)],[]⟩ Jp (hfind [(3,.cut Jb)])
theorem K75:P75.OK prog:=kA zf (by kernel_rfl)
def P76:=spA false [] 103 1 f103 ⟨Hx,[c8]⟩ [(.ret,HI)] (hfind [(3,.cut [(.normal,⟨[(3,.bool)],[c8]⟩)])])
theorem K76:P76.OK prog:=kA zf (by kernel_rfl)
def P77:=spA false [P76] 76 1 f76 KR [(.ret,H9)] (hfind [(6,.loop ⟨[(0,.row 0),(1,.clo 103 [.pc 1 0]),(7,ii),(8,ii)],[.row 47,c8]⟩ KM)])
theorem K77:P77.OK prog:=kA (za K76 zf) (by kernel_rfl)
def P78:=spA false [P77] 41 1 f41 KR [(.ret,H6)] (hfind [])
theorem K78:P78.OK prog:=kA (za K77 zf) (by kernel_rfl)
def P79:=spA false [P71,P74,P75,P78] 49 3 f49 KJ [(.ret,⟨[(0,.val 49),(1,ii),(2,ii)],[]⟩)] (hfind [(11,.draw (od [1,3,5,6,9,11]) []),(18,.loop ⟨[(1,.sl 80),(2,.pc 0 0),(4,.pc 1 0),(7,.pc 2 0),(8,ii),(29,.sl 35),(30,ii),(31,ii)],[c5,c17,c34,.row 47]⟩ [Jw,(.exit 0,⟨[(1,.sl 80),(2,.pc 0 0),(4,.pc 1 0),(7,.pc 2 0),(8,ii)],[c5,c17,c34,.row 47]⟩)]),(37,.cut [Jw,(.normal,Ka)]),(39,.draw (od [1,3,5,6,9,11]) []),(43,.cut [Jw,(.normal,Ka)]),(45,.draw (od [1,3,5,7,9,11,13,14,17,19]) []),(48,.cut [(.normal,⟨[(1,.sl 80),(2,.pc 0 0),(4,.pc 1 0),(7,.pc 2 0),(8,ii),(10,.pc 3 0),(11,.pc 4 0),(29,.sl 35),(30,ii),(31,ii),(65,.bool)],[c5,c17,c45,c5,c8,.row 47]⟩)]),(51,.draw (od [1,3,5,7,9,11,12,15,17]) []),(65,.draw (od [1,3,5,7,9,11,13,15,16,19,21]) [])])
theorem K79:P79.OK prog:=kA (za K71 (za K74 (za K75 (za K78 zf)))) (by kernel_rfl)
def P80:=spA false [P79] 19 3 f19 KJ [(.ret,⟨JZ,[.row 49]⟩)] (hfind [(8,.loop KD [Kg,(.exit 0,⟨[(7,.row 0)],[.row 49]⟩)]),(16,.cut [(.normal,KD),Kg])])
theorem K80:P80.OK prog:=kA (za K79 zf) (by kernel_rfl)
def P81:=spA false [] 141 1 f141 Ki Jp (hfind [(3,.cut Ke)])
theorem K81:P81.OK prog:=kA zf (by kernel_rfl)
def P82:=spA false [] 142 1 f142 Ki Jp (hfind [(3,.cut Ke)])
theorem K82:P82.OK prog:=kA zf (by kernel_rfl)
def P83:=spA false [] 143 1 f143 JN Jp (hfind [(9,.cut Jb),(13,.cut Jb),(17,.cut Jb),(21,.cut Jb),(25,.cut Jb),(29,.cut Jb),(33,.cut Jb),(37,.cut Jb),(41,.cut Jb),(45,.cut Jb),(49,.cut Jb),(53,.cut Jb),(57,.cut Jb),(61,.cut Jb),(65,.cut Jb),(69,.cut Jb),(73,.cut Jb),(77,.cut Jb),(81,.cut Jb)])
theorem K83:P83.OK prog:=kA zf (by kernel_rfl)
def P84:=spA false [] 144 1 f144 HB Ju (hfind [(7,.cut [(.normal,⟨[(0,.str),(1,ii),(5,.str)],[]⟩)]),(12,.cut [(.normal,⟨[(0,.str),(1,ii),(25,.bool)],[]⟩)]),(25,.cut Jq),(29,.cut Jq),(33,.cut Jq),(37,.cut Jq),(41,.cut Jq),(45,.cut Jq),(49,.cut Jq),(53,.cut Jq),(57,.cut Jq),(61,.cut Jq),(65,.cut Jq),(69,.cut Jq),(73,.cut Jq)])
theorem K84:P84.OK prog:=kA zf (by kernel_rfl)
def P85:=spA false [P81,P82,P83,P84] 104 2 f104 HB [(.ret,⟨[(0,.val 163),(1,ii)],[]⟩)] (hfind [(13,.cut [(.ret,H3),(.normal,⟨[(0,.str),(1,ii),(4,.pc 0 0),(6,.pc 1 0),(7,ii),(9,.bool)],[c21,c21]⟩)]),(16,.loop KH [(.exit 0,KH)]),(30,.cut [(.normal,⟨[(0,.str),(1,ii),(4,.pc 0 0),(6,.pc 1 0),(7,ii),(47,.bool)],[c21,c21]⟩)]),(52,.cut [(.normal,⟨Hw,[c21,c21]⟩)]),(62,.cut [(.ret,H3),(.normal,⟨[(0,.str),(1,ii),(4,.pc 0 0),(6,.pc 1 0)],[c21,c21]⟩)]),(69,.loop Jy [(.exit 2,Jy)]),(88,.cut [(.normal,Jy)]),(94,.cut [(.normal,Jy)]),(103,.cut [(.normal,⟨[(0,.str),(1,ii),(4,.pc 0 0),(6,.pc 1 0),(7,ii),(13,ii),(14,.bool),(16,.bool)],[c21,c21]⟩)]),(108,.cut [(.normal,⟨[(0,.str),(1,ii),(4,.pc 0 0),(6,.pc 1 0),(7,ii),(13,ii),(115,.bool)],[c21,c21]⟩)])])
theorem K85:P85.OK prog:=kA (za K81 (za K82 (za K83 (za K84 zf)))) (by kernel_rfl)
def P86:=spA false [P85] 50 3 f50 JN [(.ret,⟨JZ,[.row 163]⟩)] (hfind [(16,.loop ⟨JQ,[.row 163]⟩ [JD,(.exit 0,⟨[(0,.str),(5,.row 0)],[.row 163]⟩)]),(23,.cut [(.normal,⟨JQ,[.row 163]⟩),JD]),(26,.cut [(.normal,⟨[(0,.str),(5,.row 0),(6,ii),(25,.bool)],[.row 163]⟩)]),(38,.loop ⟨JQ,[.row 163]⟩ [(.exit 2,⟨JQ,[.row 163]⟩)]),(41,.cut [(.normal,⟨[(0,.str),(5,.row 0),(6,ii),(41,.bool)],[.row 163]⟩)])])
theorem K86:P86.OK prog:=kA (za K85 zf) (by kernel_rfl)
def P87:=spA false [] 105 1 f105 ⟨Kf,[c3,.row 163]⟩ [(.ret,H4)] (hfind [(3,.draw (od [1,3,5,7,9,11,13,15,17,19,21,23]) []),(5,.draw (od [1,3,5,7,9,11,13,15,17,19,21,23,25,27,29,31,33,35,37,39,41,43,45,47,49,51,53,55,57]) [(.normal,⟨[(4,.bool)],[c3,.row 163]⟩)])])
theorem K87:P87.OK prog:=kA zf (by kernel_rfl)
def P88:=spA false [P87] 51 1 f51 ⟨Kf,[c3,.row 163]⟩ [(.ret,H4)] (hfind [(7,.cut [(.normal,⟨[(5,.bool)],[c3,.row 163]⟩)])])
theorem K88:P88.OK prog:=kA (za K87 zf) (by kernel_rfl)
def P89:=spA false [] 108 0 f108 Ks [(.ret,KL)] (hfind [(2,.cut [(.normal,KL)]),(5,.draw (od [1,3,5,7,9,11,13,15,17,19,21,23,25,27,28]) [])])
theorem K89:P89.OK prog:=kA zf (by kernel_rfl)
def P90:=spA false [P89] 106 1 f106 Jk [(.ret,⟨KZ,[c3,.row 163]⟩)] (hfind [(3,.draw (od [1,3,5,7,9,11,13,15,17,19,20,22]) []),(6,.cut [(.normal,⟨[(0,.pc 0 0),(2,.pc 2 0),(3,.pc 3 0),(23,.bool)],[c3,.row 163,c1,c21]⟩)])])
theorem K90:P90.OK prog:=kA (za K89 zf) (by kernel_rfl)
def P91:=spA false [P88,P89] 53 0 f53 ⟨Kf,[c3,.row 163]⟩ [(.ret,KL)] (hfind [(4,.cut [(.normal,KL)])])
theorem K91:P91.OK prog:=kA (za K88 (za K89 zf)) (by kernel_rfl)
def P92:=spA false [P88,P91,P90] 107 1 f107 Jk JM (hfind [(3,.draw (od [1,3,5,7,9,11,13,15,17,19,21,23,25,27,29,31,33,35,37,39,41,43,45,46,48]) []),(19,.cut HC),(26,.cut HC)])
theorem K92:P92.OK prog:=kA (za K88 (za K91 (za K90 zf))) (by kernel_rfl)
def P93:=spA false [P89] 170 1 f170 Jk [(.ret,⟨[(0,ii)],[c3,.row 163]⟩)] (hfind [(3,.draw (od [1,3,5,7,9,11,13,15,17,19,20,22]) []),(6,.cut [(.normal,⟨[(0,.pc 0 0),(3,.pc 2 0),(23,.bool)],[c3,.row 163,c21]⟩)])])
theorem K93:P93.OK prog:=kA (za K89 zf) (by kernel_rfl)
def P94:=spA false [P88,P93] 173 1 f173 ⟨[(0,.pc 0 0),(1,.val 86)],[c3,.row 163]⟩ JM (hfind [(19,.cut [(.normal,⟨[(3,.pc 2 0),(4,.pc 3 0)],[c3,.row 163,c7,c1]⟩)])])
theorem K94:P94.OK prog:=kA (za K88 (za K93 zf)) (by kernel_rfl)
def P95:=spA false [P93,P88,P90,P94] 146 1 f146 Jk JM (hfind [(3,.draw (od [1,3,5,7,9,11,13,15,17,19,21,23]) []),(6,.draw (od [1,3,5,7,9,11,13,15,17,19,21,23]) [])])
theorem K95:P95.OK prog:=kA (za K93 (za K88 (za K90 (za K94 zf)))) (by kernel_rfl)
def P96:=spA false [P88,P89] 147 1 f147 Jk [(.ret,⟨[(0,.str)],[c3,.row 163]⟩)] (hfind [(8,.loop ⟨[(0,.pc 0 0),(3,.row 2),(4,ii)],[c3,.row 163,.row 9]⟩ [(.ret,⟨[(2,.str)],[c3,.row 163]⟩),(.exit 0,Jk)])])
theorem K96:P96.OK prog:=kA (za K88 (za K89 zf)) (by kernel_rfl)
def P97:=spA false [P95,P96] 112 1 f112 Jk Jf (hfind [])
theorem K97:P97.OK prog:=kA (za K95 (za K96 zf)) (by kernel_rfl)
def P98:=spA false [P91,P88,P95] 171 1 f171 Jk [(.ret,⟨[(0,.row 2)],[c3,.row 163,.row 86]⟩)] (hfind [(8,.cut [(.normal,⟨[(0,.pc 0 0),(18,.bool)],[c3,.row 163]⟩)]),(20,.loop ⟨[(0,.pc 0 0),(4,.pc 2 0),(5,.row 3)],[c3,.row 163,c7,.row 86]⟩ [(.exit 0,⟨[(0,.pc 0 0),(5,.row 2)],[c3,.row 163,.row 86]⟩)])])
theorem K98:P98.OK prog:=kA (za K91 (za K88 (za K95 zf))) (by kernel_rfl)
def P99:=spA false [P88,P93,P90,P95,P87,P98,P91,P94] 188 1 f188 Jk JM (hfind [(3,.draw (od [1,3,5,7,9,11,13,15,17,19,21,23,24,26]) []),(47,.cut HC),(60,.draw (od [1,3,5,7,9,11,13,15,17,19,21,23]) []),(106,.draw (od [1,3,5,7,9,11,13,15,17,19,21,23,25,27,29,31,33,35,37]) [(.normal,⟨[(0,.pc 0 0),(2,.pc 2 0),(3,.pc 3 0),(14,.bool),(119,.bool)],HE⟩)]),(117,.cut [(.normal,⟨[(2,.pc 2 0),(16,.pc 3 0)],Jz⟩)])])
theorem K99:P99.OK prog:=kA (za K88 (za K93 (za K90 (za K95 (za K87 (za K98 (za K91 (za K94 zf)))))))) (by kernel_rfl)
def zmC:=spA false [P90,P87,P98,P88,P95,P91,P99] 172 1 f172 Jk Jf (hfind [])
theorem zxt:zmC.OK prog:=kA (za K90 (za K87 (za K98 (za K88 (za K95 (za K91 (za K99 zf))))))) (by kernel_rfl)
def zqF:Sig:=⟨[(0,.pc 0 0),(1,ii),(2,ii)],[c3,.row 163]⟩
def zqG:List (XK×Sig):=Jf
def zu0:Nat->G3 Hint:=hfind []
def zqH:Sig:=Jk
def zqI:List (XK×Sig):=Jf
def zu1:Nat->G3 Hint:=hfind [(3,.draw (od [1,3,5,7,9,11,13,15,17,19,21,23]) []),(8,.draw (od [1,3,5,7,9,11,13,15,17,19,21,23]) []),(9,.cut [(.normal,⟨[(0,.pc 0 0),(2,.pc 2 0),(3,ii),(4,.str)],[c3,.row 163,c1]⟩)]),(10,.draw (od [1,3,5,7,9,11,13,15,17,19,21,23]) []),(20,.cut [(.ret,Hh),Jg]),(32,.cut [(.normal,⟨[(2,.pc 2 0),(5,.pc 3 0),(6,.pc 4 0)],[c3,.row 163,c1,c52,.cell [ii,.str,ii,ii,.row 6],.row 86,.row 86]⟩)]),(50,.cut [Jg]),(61,.cut [(.normal,⟨[(0,.pc 0 0),(2,.pc 2 0),(4,.str),(5,.pc 3 0),(49,.str),(108,.bool)],HE⟩)]),(64,.cut [Jg]),(74,.cut [(.normal,⟨[(0,.pc 0 0),(2,.pc 2 0),(5,.pc 3 0),(9,.pc 4 0)],[c3,.row 163,c1,c1,c1]⟩)]),(86,.cut [Jg]),(95,.cut [Jg]),(102,.cut [Jg]),(108,.cut [Jg])]
def Xg:Sig:=Jk
def Xh:List (XK×Sig):=Jf
def zu2:Nat->G3 Hint:=hfind [(3,.draw (od [1,3,5,7,9,11,13,15,17,19,21,23,24,26]) []),(8,.cut [(.normal,⟨[(0,.pc 0 0),(2,.pc 2 0),(3,.pc 3 0),(28,.bool)],HE⟩)]),(9,.cut HC),(18,.loop Hf [(.exit 0,Hf)])]
def zdf (h:Xg.ty CC->G3 (zi CC Xh)):Spec CC:=⟨109,1,Xg,Xh,h⟩
def zhy (h:Xg.ty CC->G3 (zi CC Xh)) (x:zqF.ty CC):G3 (zi CC zqG):=wD ⟨false⟩ [P97,zdf h] lpO prog f169 1 zqF zqG zu0 x
def zsm (h:Xg.ty CC->G3 (zi CC Xh)):Spec CC:=⟨169,1,zqF,zqG,zhy h⟩
theorem zwS {h:Xg.ty CC->G3 (zi CC Xh)}(hh:Spec.OK prog (zdf h)):Spec.OK prog (zsm h):=yX (za K97 (za hh zf)) ZQ ZO zu0 (by kernel_rfl) (by kernel_rfl) (by kernel_rfl) fun x=>rfl
def zhz (h:Xg.ty CC->G3 (zi CC Xh)) (x:zqH.ty CC):G3 (zi CC zqI):=wD ⟨false⟩ [zsm h,P88,zdf h,P90,P91,P93,P87,P95,P98,zmC] lpO prog f145 1 zqH zqI zu1 x
def zsn (h:Xg.ty CC->G3 (zi CC Xh)):Spec CC:=⟨145,1,zqH,zqI,zhz h⟩
theorem zwT {h:Xg.ty CC->G3 (zi CC Xh)}(hh:Spec.OK prog (zdf h)):Spec.OK prog (zsn h):=yX (za (zwS hh) (za K88 (za hh (za K90 (za K91 (za K93 (za K87 (za K95 (za K98 (za zxt zf)))))))))) ZQ ZO zu1 (by kernel_rfl) (by kernel_rfl) (by kernel_rfl) fun x=>rfl
def zhA (h:Xg.ty CC->G3 (zi CC Xh)) (x:Xg.ty CC):G3 (zi CC Xh):=wD ⟨false⟩ [P87,P89,P91,P88,zsn h] lpO prog f109 1 Xg Xh zu2 x
def zwU (h:Xg.ty CC->G3 (zi CC Xh)):Spec CC:=⟨109,1,Xg,Xh,zhA h⟩
theorem zwV {h:Xg.ty CC->G3 (zi CC Xh)}(hh:Spec.OK prog (zdf h)):Spec.OK prog (zwU h):=yX (za K87 (za K89 (za K91 (za K88 (za (zwT hh) zf))))) ZQ ZO zu2 (by kernel_rfl) (by kernel_rfl) (by kernel_rfl) fun x=>rfl
def zfb:Nat->Xg.ty CC->G3 (zi CC Xh)
  |0=>fun _=>none
  |k+1=>zhA (zfb k)
theorem zso:∀ k,Spec.OK prog (zdf (zfb k))
  |0=>⟨f109,by kernel_rfl,by kernel_rfl,by kernel_rfl,fun x r h=>by cases h⟩
  |k+1=>zwV (zso k)
def zu3 (x:Xg.ty CC):G3 (zi CC Xh):=zfb 100000 x
def zu4:Spec CC:=⟨109,1,Xg,Xh,zu3⟩
theorem zxu:Spec.OK prog zu4:=zso 100000
def zqJ:=spA false [P90,P91,P88,P92,P87,P89,zu4] 52 1 f52 Ks Jf (hfind [(14,.loop KQ [(.exit 0,Km)]),(17,.cut [(.normal,⟨[(0,.pc 0 0),(4,.pc 2 0),(5,.pc 3 0),(6,.bool),(31,.bool)],Jz⟩)]),(38,.cut [(.normal,KQ)]),(44,.draw (od [1,3,5,7,9,11,13,15,17,19,21,23,24,26]) []),(50,.cut [(.normal,⟨Ht,[c3,.row 163,c1,c52,c7,.row 86]⟩)]),(56,.cut [(.normal,⟨Ht,[c3,.row 163,c1,c52,c1,.row 86]⟩)])])
theorem zxv:zqJ.OK prog:=kA (za K90 (za K91 (za K88 (za K92 (za K87 (za K89 (za zxu zf))))))) (by kernel_rfl)
def zqK:=spA false [P88,P90,P89] 110 1 f110 Jk JM (hfind [(3,.draw (od [1,3,5,7,9,11,13,15,17,19,21,23,25,27,29,31,33,35,37,39,41,43,45,46,48]) []),(30,.loop ⟨[(0,.pc 0 0),(2,.pc 2 0),(3,.pc 3 0),(6,.row 4),(7,ii)],[c3,.row 163,c1,c1,.row 9]⟩ [(.ret,Hh),(.exit 0,J1)])])
theorem zxw:zqK.OK prog:=kA (za K88 (za K90 (za K89 zf))) (by kernel_rfl)
def zqL:=spA false [P90,P88,P91] 111 1 f111 Jk Jf (hfind [(11,.cut [(.normal,⟨[(2,.pc 2 0),(3,.pc 3 0)],Jz⟩)])])
theorem zxx:zqL.OK prog:=kA (za K90 (za K88 (za K91 zf))) (by kernel_rfl)
def zqM:=spA false [P90,zqK,P88,zqL,P91,P97] 54 1 f54 Ks Jf (hfind [(16,.loop KP [(.exit 0,Km)]),(32,.cut [(.normal,KP)]),(39,.loop ⟨[(0,.pc 0 0),(4,.pc 2 0),(5,.pc 3 0),(9,.bool)],Jz⟩ [(.exit 2,Km)])])
theorem zxy:zqM.OK prog:=kA (za K90 (za zxw (za K88 (za zxx (za K91 (za K97 zf)))))) (by kernel_rfl)
def vZ:Sig:=HG
def v6:List (XK×Sig):=Ju
def zu5:Nat->G3 Hint:=hfind [(8,.loop ⟨[(1,.pc 0 0),(3,ii),(4,ii)],[c7]⟩ HM)]
def zmD (h:vZ.ty CC->G3 (zi CC v6)):Spec CC:=⟨55,1,vZ,v6,h⟩
def zhB (h:vZ.ty CC->G3 (zi CC v6)) (x:vZ.ty CC):G3 (zi CC v6):=wD ⟨false⟩ [zmD h] lpO prog f55 1 vZ v6 zu5 x
def zwW (h:vZ.ty CC->G3 (zi CC v6)):Spec CC:=⟨55,1,vZ,v6,zhB h⟩
theorem zwX {h:vZ.ty CC->G3 (zi CC v6)}(hh:Spec.OK prog (zmD h)):Spec.OK prog (zwW h):=yX (za hh zf) ZQ ZO zu5 (by kernel_rfl) (by kernel_rfl) (by kernel_rfl) fun x=>rfl
def zfc:Nat->vZ.ty CC->G3 (zi CC v6)
  |0=>fun _=>none
  |k+1=>zhB (zfc k)
theorem zsp:∀ k,Spec.OK prog (zmD (zfc k))
  |0=>⟨f55,by kernel_rfl,by kernel_rfl,by kernel_rfl,fun x r h=>by cases h⟩
  |k+1=>zwX (zsp k)
def zu6 (x:vZ.ty CC):G3 (zi CC v6):=zfc 100000 x
def zu7:Spec CC:=⟨55,1,vZ,v6,zu6⟩
theorem zxz:Spec.OK prog zu7:=zsp 100000
def zqN:=spA false [P86,P88,zqJ,P91,zqM,zu7] 20 3 f20 JN [(.ret,⟨[(0,.val 86),(1,ii),(2,ii)],[]⟩)] (hfind [(18,.loop J7 [(.exit 0,J7)]),(21,.draw (od [1,3,5,7,9,11,13,15,17,19,21,23,25,27,29,31,33,35,37]) [(.normal,⟨[(2,.pc 0 0),(8,.pc 1 0),(9,.pc 2 0),(48,.bool)],[c1,c41,c9,.row 163,.row 86]⟩)]),(25,.cut [(.normal,J7)]),(27,.draw (od [1,3,5,7,9,11,13,15,17,19,21,23]) []),(44,.cut [(.normal,J7)]),(54,.draw (od [1,3,5,7,9,11,13,15,17,18,21,23]) [])])
theorem zxA:zqN.OK prog:=kA (za K86 (za K88 (za zxv (za K91 (za zxy (za zxz zf)))))) (by kernel_rfl)
def zmE:=spA false [] 113 1 f113 ⟨[(0,.val 86),(1,ii)],[]⟩ [(.ret,⟨[(0,.row 0)],[.row 86]⟩)] (hfind [(8,.loop KO [(.exit 0,⟨[(5,.row 0)],[.row 86]⟩)]),(19,.cut [(.normal,KO)])])
theorem zxB:zmE.OK prog:=kA zf (by kernel_rfl)
def zjx:=spA false [] 114 1 f114 ⟨[(0,.sl 171),(1,.str)],[]⟩ Ju (hfind [(6,.loop ⟨[(0,.sl 171),(1,.str),(5,ii)],[]⟩ Kq)])
theorem zu8:zjx.OK prog:=kA zf (by kernel_rfl)
def zmF:=spA false [] 115 1 f115 ⟨[(0,.sl 86),(1,.str)],[]⟩ Ju (hfind [(6,.loop ⟨[(0,.sl 86),(1,.str),(5,ii)],[]⟩ Kq),(16,.cut [(.normal,⟨[(0,.sl 86),(1,.str),(5,ii),(27,.bool)],[]⟩)])])
theorem zxC:zmF.OK prog:=kA zf (by kernel_rfl)
def zmG:=spA false [] 116 1 f116 Hb [(.ret,⟨[(0,.row 0)],[.row 231]⟩)] (hfind [(7,.cut Kz),(12,.cut [(.normal,⟨[(0,.str),(1,ii),(2,ii),(3,ii),(4,ii),(11,.row 0),(29,.bool)],[.row 231]⟩)]),(13,.cut Kz),(19,.cut [(.normal,⟨[(11,.row 0)],[.row 231]⟩)])])
theorem zxD:zmG.OK prog:=kA zf (by kernel_rfl)
def zqO:=spA false [zmE,zjx,zmF,zmG] 56 3 f56 ⟨[(0,.row 0),(1,.val 86)],[.row 171]⟩ [(.ret,⟨[(0,.val 171),(1,ii),(2,ii)],[.row 171]⟩)] (hfind [(17,.draw (od [1,3,5,6,9,11]) []),(25,.draw (od [1,3,5,6,9,11]) []),(32,.loop Ko [Jo,(.exit 0,⟨[(0,.row 0),(4,.pc 1 0),(7,.row 2),(8,.row 3),(9,.pc 4 0),(10,.pc 5 0)],J8⟩)]),(40,.cut [Jo,(.normal,Ko)]),(47,.loop ⟨[(0,.row 0),(4,.pc 1 0),(7,.row 2),(8,.row 3),(9,.pc 4 0),(10,.pc 5 0),(12,ii),(13,.pc 6 0),(14,ii)],JY⟩ [Jo,(.exit 2,⟨[(0,.row 0),(4,.pc 1 0),(7,.row 2),(8,.row 3),(9,.pc 4 0),(10,.pc 5 0),(12,ii),(13,.pc 6 0)],JY⟩)]),(57,.draw (od [1,3,5,7,9,11,13,15]) []),(60,.draw (od [1,3,5,6,9,11]) []),(69,.cut [Jo,(.normal,⟨[(0,.row 0),(4,.pc 1 0),(7,.row 2),(8,.row 3),(9,.pc 4 0),(10,.pc 5 0),(12,ii),(13,.pc 6 0),(15,ii)],JY⟩)]),(73,.cut [(.normal,⟨[(0,.row 0),(4,.pc 1 0),(7,.row 2),(8,.row 3),(9,.pc 4 0),(10,.pc 5 0),(12,ii),(13,.pc 6 0),(15,ii),(93,.bool)],JY⟩)]),(76,.draw (od [1,3,5,6,9,11]) []),(90,.cut [J5,Jo]),(95,.cut [(.normal,⟨[(0,.row 0),(4,.pc 1 0),(7,.row 2),(8,.row 3),(9,.pc 4 0),(10,.pc 5 0),(16,ii),(107,.str),(111,.bool)],J8⟩)]),(98,.cut [Jo,J5]),(104,.cut [(.normal,⟨[(4,.pc 1 0),(7,.row 2),(8,.row 3),(9,.pc 4 0),(10,.pc 5 0)],J8⟩)]),(114,.draw (od [1,3,5,6,9,11]) []),(120,.cut [Jo,J5]),(130,.draw (od [1,3,5,6,9,11]) []),(138,.draw (od [1,3,5,6,9,11]) []),(142,.cut [(.normal,⟨[(4,.pc 1 0),(7,.row 2),(8,.row 3),(9,.pc 4 0),(10,.pc 5 0),(16,ii),(167,.bool)],J8⟩)]),(145,.draw (od [1,3,5,6,9,11]) []),(153,.loop JK [JV,(.exit 5,⟨[(4,.pc 1 0),(10,.pc 2 0)],[.row 171,c10,.cell [.str,ii,ii,.row 3,.row 4],.row 228,.row 231]⟩)]),(168,.loop Kj [JV,(.exit 7,⟨[(4,.pc 1 0),(7,.row 2),(8,.row 3),(10,.pc 4 0),(16,ii),(17,ii),(18,.row 5)],JF⟩)]),(176,.cut [(.normal,Kj),JV]),(189,.cut [(.normal,⟨[(4,.pc 1 0),(7,.row 2),(8,.row 3),(10,.pc 4 0),(16,ii),(17,ii),(18,.row 5),(19,ii),(21,ii),(202,.bool)],JF⟩)]),(192,.draw (od [1,3,5,7,9,11,12,15,17]) []),(198,.draw (od [1,3,5,7,9,11,13,15,17,19,21,23,25,27,29,31,33,35,37,39,41,43,45,47,49,51,53,54,57]) []),(202,.loop ⟨[(4,.pc 1 0),(7,.row 2),(8,.row 3),(10,.pc 4 0),(16,ii),(17,ii),(22,.row 5),(23,ii)],[.row 171,c10,.row 86,.row 86,c32,.row 231,.row 228,.row 231]⟩ [(.exit 9,JK)]),(211,.draw (od [1,3,5,7,9,11,12,14,17,18]) [])])
theorem zxE:zqO.OK prog:=kA (za zxB (za zu8 (za zxC (za zxD zf)))) (by kernel_rfl)
def zqP:=spA false [zqO] 21 3 f21 HG [(.ret,⟨JZ,[.row 171]⟩)] (hfind [(8,.loop KY [JD,(.exit 0,⟨[(5,.row 0)],[.row 171]⟩)]),(16,.cut [(.normal,KY),JD])])
theorem zxF:zqP.OK prog:=kA (za zxE zf) (by kernel_rfl)
def zqQ:=spA false [zjx] 117 2 f117 KG [(.ret,⟨[(0,.val 175),(1,.bool)],[]⟩)] (hfind [(10,.cut J3),(14,.cut J3),(18,.cut J3),(22,.cut J3),(28,.cut [(.ret,⟨[(4,.pc 0 0),(5,.bool)],[c12]⟩),(.normal,⟨Hw,[c12,c12]⟩)])])
theorem zxG:zqQ.OK prog:=kA (za zu8 zf) (by kernel_rfl)
def zqR:=spA false [zqQ] 57 3 f57 KG [(.ret,⟨[(0,.val 177),(1,ii),(2,ii)],[]⟩)] (hfind [(11,.draw (od [1,3,5,6,9,11]) []),(18,.loop Kk [Jw,(.exit 0,⟨[(1,.sl 171),(2,.pc 0 0),(4,.pc 1 0),(7,.pc 2 0),(8,ii)],[c7,c17,c34,.row 175]⟩)]),(26,.cut [Jw,(.normal,Kk)]),(33,.loop ⟨[(1,.sl 171),(2,.pc 0 0),(4,.pc 1 0),(7,.pc 2 0),(8,ii),(9,ii),(10,.pc 3 0),(11,ii)],[c7,c17,c44,c7,.row 175]⟩ [Jw,(.exit 2,⟨[(1,.sl 171),(2,.pc 0 0),(4,.pc 1 0),(7,.pc 2 0),(8,ii),(9,ii),(10,.pc 3 0)],[c7,c17,c44,c7,.row 175]⟩)]),(43,.draw (od [1,3,5,7,9,11,13,15,17]) []),(46,.draw (od [1,3,5,6,9,11]) []),(57,.draw (od [1,3,5,7,9,11,12,15,17]) []),(64,.loop ⟨[(1,.sl 171),(2,.pc 0 0),(4,.pc 1 0),(7,.pc 2 0),(8,ii),(9,ii),(10,.pc 3 0),(12,.pc 4 0),(14,ii)],Hk⟩ [Jw,(.exit 4,⟨[(1,.sl 171),(2,.pc 0 0),(4,.pc 1 0),(7,.pc 2 0),(8,ii),(9,ii),(10,.pc 3 0),(12,.pc 4 0)],Hk⟩)]),(76,.cut [(.normal,⟨[(1,.sl 171),(2,.pc 0 0),(4,.pc 1 0),(7,.pc 2 0),(8,ii),(9,ii),(10,.pc 3 0),(12,.pc 4 0),(14,ii),(107,.bool)],Hk⟩)]),(79,.draw (od [1,3,5,7,9,11,12,15,17]) []),(94,.draw (od [1,3,5,7,9,11,13,14,17,19]) [])])
theorem zxH:zqR.OK prog:=kA (za zxG zf) (by kernel_rfl)
def zqS:=spA false [zqR] 22 3 f22 KG [(.ret,⟨JZ,[.row 177]⟩)] (hfind [(8,.loop KI [Kg,(.exit 0,⟨[(7,.row 0)],[.row 177]⟩)]),(16,.cut [(.normal,KI),Kg])])
theorem zxI:zqS.OK prog:=kA (za zxH zf) (by kernel_rfl)
def zmH:=spA false [P50,P70,P80,zqN,zqP,zqS] 6 2 f6 JN [(.ret,⟨[(0,.val 30),(1,.bool)],[]⟩)] (hfind [(28,.loop JG [(.exit 0,⟨[(2,.pc 0 0),(9,ii),(10,.row 1),(12,ii),(19,.row 2),(22,.pc 3 0)],[c19,.row 49,.row 177,.cell [.row 4,.sl 80,.row 1,.row 5,.sl 171,.row 2],.row 35,.row 86]⟩)]),(41,.cut [(.normal,JG)]),(44,.draw (od [1,3,5,7,9,11,13,14,16,19,20]) []),(48,.draw (od [1,3,5,7,9,11,13,15,17,19,21,23,25,27,29,31,33,35,37,39,41,43,45,46,49]) [(.normal,⟨[(2,.pc 0 0),(3,.bool)],[.cell [.row 1,.sl 80,.row 2,.row 3,.sl 171,.row 4],.row 35,.row 49,.row 86,.row 177]⟩)])])
theorem zu9:zmH.OK prog:=kA (za K50 (za K70 (za K80 (za zxA (za zxF (za zxI zf)))))) (by kernel_rfl)
def zjy:=spA false [] 78 0 f78 ⟨[(0,.pc 0 0),(1,.bool),(2,ii)],Hq⟩ [Js,(.ret,⟨[],Hq⟩)] (hfind [])
theorem zva:zjy.OK prog:=kA zf (by kernel_rfl)
def zmI:=spA false [zjy] 33 0 f33 ⟨[(0,.pc 0 0),(1,.val 35),(2,.bool),(3,ii)],Hq⟩ [Js,(.ret,⟨[],Hq⟩)] (hfind [])
theorem zvb:zmI.OK prog:=kA (za zva zf) (by kernel_rfl)
def zmJ:=spA false [] 77 1 f77 ⟨Hx,[c23]⟩ Kd (hfind [])
theorem zxJ:zmJ.OK prog:=kA zf (by kernel_rfl)
def zqT:=spA false [zmJ] 76 1 f76 ⟨[(0,.sl 47),(1,.clo 77 [.pc 0 0])],[c23]⟩ Ky (hfind [(6,.loop ⟨[(0,.sl 47),(1,.clo 77 [.pc 0 0]),(7,ii),(8,ii)],[c23]⟩ JO)])
theorem zxK:zqT.OK prog:=kA (za zxJ zf) (by kernel_rfl)
def zgk:=spA false [zqT] 31 1 f31 ⟨[(0,.val 53),(1,.str)],[]⟩ Ju (hfind [])
theorem zmK:zgk.OK prog:=kA (za zxK zf) (by kernel_rfl)
def zqU:=spA false [zmI,zgk,P54,zjy] 34 1 f34 ⟨JE,Hq⟩ [Js,(.ret,⟨[(0,.agg [.str,ii,.row 2])],[c15,.forow 53,.row 47]⟩)] (hfind [(12,.loop Kb [Js,(.exit 0,⟨[(0,.pc 0 0),(3,.pc 2 0),(4,.pc 3 0),(5,ii),(6,.pc 4 0)],[c15,.forow 53,c5,c25,c48,.row 47]⟩)]),(20,.cut [Js,(.normal,Kb)]),(26,.draw (od [1,3,5,7,9,10,13,14]) []),(28,.cut [Js,(.normal,⟨[(0,.pc 0 0),(3,.pc 2 0),(4,.pc 3 0),(5,ii),(6,.pc 4 0),(8,.pc 5 0),(9,.pc 6 0),(27,.sl 35),(28,ii),(29,ii)],[c15,.forow 53,c5,c25,c53,c5,c5,.row 47]⟩)]),(34,.cut [Js,(.normal,⟨[(0,.pc 0 0),(3,.pc 2 0),(4,.pc 3 0),(5,ii),(6,.pc 4 0),(10,.pc 5 0),(27,.sl 35),(28,ii),(29,ii)],[c15,.forow 53,c5,c25,c56,c8,.row 47]⟩)]),(36,.draw (od [1,3,5,7,9,11,13,15,17,21,18,22,25,26]) []),(42,.draw (od [1,3,5,7,9,11,13,15,17,19,21,23,25,26]) [])])
theorem zxL:zqU.OK prog:=kA (za zvb (za zmK (za K54 (za zva zf)))) (by kernel_rfl)
def Wg:=spA false [] 78 0 f78 ⟨[(0,.pc 0 0),(1,.bool),(2,ii)],J0⟩ [Jc,KW] (hfind [])
theorem zbr:Wg.OK prog:=kA zf (by kernel_rfl)
def zmL:=spA false [zgk,Wg] 128 1 f128 ⟨Kf,J0⟩ [Jc,Hj] (hfind [])
theorem zvc:zmL.OK prog:=kA (za zmK (za zbr zf)) (by kernel_rfl)
def zmM:=spA false [] 129 1 f129 ⟨[(0,.val 49),(1,.pc 0 0)],[c5]⟩ [(.ret,⟨[(0,.bool)],[c5]⟩)] (hfind [])
theorem zxM:zmM.OK prog:=kA zf (by kernel_rfl)
def zqV:=spA false [zmM] 91 1 f91 ⟨[(0,.sl 49),(1,.clo 129 [.pc 0 0])],[c5]⟩ [(.ret,⟨[(0,ii)],[c5]⟩)] (hfind [(6,.loop ⟨[(0,.sl 49),(1,.clo 129 [.pc 0 0]),(7,ii),(8,ii)],[c5]⟩ [(.ret,⟨[(4,ii)],[c5]⟩),(.exit 0,⟨[],[c5]⟩)])])
theorem zxN:zqV.OK prog:=kA (za zxM zf) (by kernel_rfl)
def zgl:=spA false [Wg,zmL] 85 0 f85 ⟨[(0,.pc 0 0),(1,.val 35),(2,.val 47)],J0⟩ [Jc,KW] (hfind [(15,.cut [Jc,He]),(18,.cut [(.normal,⟨[(0,.pc 0 0),(4,.pc 2 0),(5,.pc 3 0),(6,.pc 4 0),(47,.bool)],H0⟩)]),(19,.cut [Jc,He]),(20,.cut [Jc,He]),(21,.cut [Jc,He])])
theorem zqW:zgl.OK prog:=kA (za zbr (za zvc zf)) (by kernel_rfl)
def zqX:=spA false [Wg,zgl] 84 0 f84 ⟨[(0,.pc 0 0),(1,.sl 35),(2,.sl 47)],J0⟩ [Jc,KW] (hfind [(5,.loop ⟨[(0,.pc 0 0),(2,.sl 47),(15,.sl 35),(16,ii),(17,ii)],J0⟩ [Jc,(.exit 0,⟨[],J0⟩)]),(16,.draw (od [1,3,5,7,9,11,12]) [])])
theorem zxO:zqX.OK prog:=kA (za zbr (za zqW zf)) (by kernel_rfl)
def zjz:=spA false [zqV,Wg,zqX] 82 1 f82 ⟨JE,J0⟩ [Jc,Hj] (hfind [(7,.draw (od [1,3,5,7,9,11,13,15,17,19,21,22]) [])])
theorem zvd:zjz.OK prog:=kA (za zxN (za zbr (za zxO zf))) (by kernel_rfl)
def zmN:=spA false [zmL,Wg,zjz] 81 1 f81 ⟨JE,J0⟩ [Hj,Jc] (hfind [(10,.cut [Kc,Jc,J9]),(22,.cut [Jc,(.normal,⟨[(4,.pc 2 0),(6,.pc 3 0)],HA⟩)]),(29,.cut [(.normal,⟨[(0,.pc 0 0),(3,.pc 2 0),(4,.pc 3 0),(5,.pc 4 0),(13,ii),(35,.bool)],H0⟩)]),(32,.cut [Jc,Kc,J9]),(34,.draw (od [1,3,5,7,9,11,15,17,19,21,23,25,12,26,28,30,32,34]) [Jc,(.normal,⟨[(0,.pc 0 0),(4,.pc 2 0),(5,.pc 3 0),(7,.pc 4 0),(8,.pc 5 0)],[c0,.forow 53,c8,c8,c8,c8]⟩)]),(36,.cut [Jc,(.normal,⟨[(4,.pc 2 0),(5,.pc 3 0)],HA⟩)]),(43,.cut [(.normal,⟨[(0,.pc 0 0),(3,.pc 2 0),(4,.pc 3 0),(5,.pc 4 0),(13,ii),(63,.bool)],H0⟩)]),(46,.cut [Jc,Kc,J9]),(56,.cut [(.normal,⟨[(4,.pc 2 0),(9,.pc 3 0)],HA⟩)]),(64,.cut [Jc,Kc,J9])])
theorem zxP:zmN.OK prog:=kA (za zvc (za zbr (za zvd zf))) (by kernel_rfl)
def zmO:=spA false [zgk,Wg] 80 0 f80 ⟨[(0,.pc 0 0),(1,.str),(2,.val 47)],[c0,.orow 53]⟩ [JA,(.ret,Hm)] (hfind [(11,.draw (od [1,3,5,7,9,11,13,15,17,19,21,23,25,26]) []),(14,.draw (od [1,3,5,7,9,11,13,15,17,19,21,23,24,26,29,31,32]) [])])
theorem zxQ:zmO.OK prog:=kA (za zmK (za zbr zf)) (by kernel_rfl)
def zmP:=spA false [] 83 1 f83 ⟨[(0,.val 53),(1,.pz 35 0)],[]⟩ Jp (hfind [])
theorem zxR:zmP.OK prog:=kA zf (by kernel_rfl)
def zmQ:=spA false [zmP] 39 1 f39 ⟨[(0,.row 0),(1,.clo 83 [.pc 1 0])],Hv⟩ [(.ret,⟨[(0,ii)],Hv⟩)] (hfind [(6,.loop ⟨[(0,.row 0),(1,.clo 83 [.pc 1 0]),(7,ii),(8,ii)],Hv⟩ [(.ret,⟨[(4,ii)],Hv⟩),(.exit 0,⟨[],Hv⟩)])])
theorem zxS:zmQ.OK prog:=kA (za zxR zf) (by kernel_rfl)
def zmR:=spA false [Wg,zgl] 84 0 f84 ⟨[(0,.pc 0 0),(1,.sl 35),(2,.nxp 1 53 47)],J0⟩ [Jc,KW] (hfind [(5,.loop ⟨[(0,.pc 0 0),(2,.nxp 1 53 47),(15,.sl 35),(16,ii),(17,ii)],J0⟩ [Jc,(.exit 0,⟨[],J0⟩)]),(16,.draw (od [1,3,5,7,9,11,12]) [])])
theorem zxT:zmR.OK prog:=kA (za zbr (za zqW zf)) (by kernel_rfl)
def v7:Sig:=⟨[(0,.pc 0 0),(1,.sl 35)],J0⟩
def v8:List (XK×Sig):=[JA,(.ret,Hm)]
def zve:Nat->G3 Hint:=hfind [(5,.loop JL [JA,(.exit 0,Hm)]),(23,.cut Jd),(24,.draw (od [1,3,5,7,9,11,13,15,16,18]) Jd),(27,.cut Jd),(31,.cut Jd),(36,.draw (od [1,3,5,7,9,11,13,15,17,19,21,23,25,27,29,31,33,35,37,39,40]) []),(40,.cut [(.normal,⟨[(0,.pc 0 0),(4,.pc 2 0),(6,.pc 3 0),(11,.sl 35),(12,ii),(13,ii),(23,ii),(79,.bool)],[c0,.orow 53,c8,c5]⟩)]),(43,.cut Jd),(45,.draw (od [1,3,5,7,9,11,12]) []),(47,.draw (od [1,3,5,7,9,11,12]) []),(51,.loop ⟨[(0,.pc 0 0),(4,.pc 2 0),(11,.sl 35),(12,ii),(13,ii),(98,.sl 35),(99,ii),(100,ii)],[c0,.orow 53,c8]⟩ [JA,(.exit 3,JL)]),(66,.cut Jd),(70,.cut [(.normal,JL),JA])]
def zmS (h:v7.ty CC->G3 (zi CC v8)):Spec CC:=⟨35,0,v7,v8,h⟩
def zhC (h:v7.ty CC->G3 (zi CC v8)) (x:v7.ty CC):G3 (zi CC v8):=wD ⟨false⟩ [zmN,zmO,zjz,zmQ,Wg,zmR,zgl,zmS h] lpO prog f35 0 v7 v8 zve x
def zwY (h:v7.ty CC->G3 (zi CC v8)):Spec CC:=⟨35,0,v7,v8,zhC h⟩
theorem zwZ {h:v7.ty CC->G3 (zi CC v8)}(hh:Spec.OK prog (zmS h)):Spec.OK prog (zwY h):=yX (za zxP (za zxQ (za zvd (za zxS (za zbr (za zxT (za zqW (za hh zf)))))))) ZQ ZO zve (by kernel_rfl) (by kernel_rfl) (by kernel_rfl) fun x=>rfl
def zfd:Nat->v7.ty CC->G3 (zi CC v8)
  |0=>fun _=>none
  |k+1=>zhC (zfd k)
theorem zsq:∀ k,Spec.OK prog (zmS (zfd k))
  |0=>⟨f35,by kernel_rfl,by kernel_rfl,by kernel_rfl,fun x r h=>by cases h⟩
  |k+1=>zwZ (zsq k)
def zvf (x:v7.ty CC):G3 (zi CC v8):=zfd 100000 x
def zvg:Spec CC:=⟨35,0,v7,v8,zvf⟩
theorem zxU:Spec.OK prog zvg:=zsq 100000
def zjA:=spA false [] 161 1 f161 JT [(.ret,JT)] (hfind [])
theorem zxV:zjA.OK prog:=kA zf (by kernel_rfl)
def zgm:=spA false [] 181 1 f181 JT [(.ret,HH)] (hfind [])
theorem zqY:zgm.OK prog:=kA zf (by kernel_rfl)
def zep:=spA false [zgm] 163 1 f163 ⟨[(0,.val 35),(1,ii)],[]⟩ [(.ret,HH)] (hfind [])
theorem zqZ:zep.OK prog:=kA (za zqY zf) (by kernel_rfl)
def zjB:=spA false [zgm] 164 1 f164 JT [(.ret,⟨[(0,.row 0)],[.row 68]⟩)] (hfind [(8,.loop ⟨[(3,.row 0),(7,.sl 35),(8,ii),(9,ii)],[.row 68]⟩ [(.exit 0,⟨[(3,.row 0)],[.row 68]⟩)])])
theorem zvh:zjB.OK prog:=kA (za zqY zf) (by kernel_rfl)
def zbs:=spA false [] 87 1 f87 ⟨[(0,.pc 0 0),(1,.val 71)],[c24,.row 71]⟩ [(.ret,⟨[(0,ii)],[c47,.gone,.row 71]⟩)] (hfind [(3,.draw (od [1,3,5,7,9,11,12,14,17,19,20]) [])])
theorem zmT:zbs.OK prog:=kA zf (by kernel_rfl)
def zmU:=spA false [zep,zjB,zgm,zbs] 160 0 f160 ⟨[(0,.pc 0 0),(1,.val 35),(2,.val 35)],[c24,.row 71]⟩ [(.ret,JI)] (hfind [(11,.cut [(.normal,⟨[(0,.pc 0 0),(5,.pc 2 0),(6,.pc 3 0),(13,ii),(17,.bool)],HF⟩)]),(14,.cut Jv),(15,.draw (od [1,3,5,7,9,13,17,10,14,18,21,22,25,26]) []),(18,.cut Jv),(19,.draw (od [1,3,5,7,8,11,12]) []),(22,.cut Jv),(23,.draw (od [1,3,5,7,8,11,12]) []),(26,.cut Jv),(27,.draw (od [1,3,5,9,6,10,13,14,17,18]) []),(30,.cut Jv),(31,.draw (od [1,3,5,9,6,10,13,14,17,18]) []),(35,.cut [(.normal,⟨[(0,.pc 0 0),(5,.pc 2 0),(6,.pc 3 0),(63,.bool)],HF⟩)]),(38,.cut [(.normal,⟨[(0,.pc 0 0),(6,.pc 2 0)],[c24,.row 71,c6]⟩)])])
theorem zxW:zmU.OK prog:=kA (za zqZ (za zvh (za zqY (za zmT zf)))) (by kernel_rfl)
def zq0:Sig:=⟨JE,[c24,.row 71]⟩
def zq1:List (XK×Sig):=[(.ret,JI)]
def zvi:Nat->G3 Hint:=hfind [(9,.draw (od [1,3,5,7,9,11,15,12,16,19,20,23]) []),(15,.draw (od [1,3,5,7,9,11,13,15,17,19,21,23,24]) []),(17,.cut [(.normal,⟨[(0,.pc 0 0),(3,.pc 2 0),(5,ii),(53,.bool)],[c51,.gone,c5,.row 71]⟩)]),(18,.cut [(.normal,JI)]),(21,.draw (od [1,3,5,7,9,11,13,15,17,19,21,23,24]) [])]
def zq2:Sig:=⟨JE,[c24,.row 71]⟩
def zq3:List (XK×Sig):=[(.ret,JI)]
def zvj:Nat->G3 Hint:=hfind [(10,.cut [(.ret,JI),Jl]),(12,.draw (od [1,3,5,6,8]) []),(17,.cut [(.normal,⟨[(0,.pc 0 0),(3,.pc 2 0),(4,.pc 3 0),(11,ii),(21,.bool)],HF⟩)]),(26,.cut [Jl]),(27,.draw (od [1,5,9,2,6,10,13,14,17,18]) []),(30,.cut [Jl]),(34,.cut [Jl]),(35,.draw (od [1,3,5,7,8,11,12]) []),(38,.cut [Jl]),(39,.draw (od [1,3,5,7,8,11,12]) []),(42,.cut [Jl]),(43,.draw (od [1,7,13,2,5,8,10,14,17,18,21,22]) []),(46,.cut [Jl]),(50,.cut [(.normal,⟨[(0,.pc 0 0),(4,.pc 2 0)],[c24,.row 71,c6]⟩)]),(51,.draw (od [1,3,5,7,9,13,10,14,17,18,21,22,25,26]) [])]
def Xi:Sig:=⟨JE,[c24,.row 71]⟩
def Xj:List (XK×Sig):=[(.ret,JI)]
def zvk:Nat->G3 Hint:=hfind [(5,.loop ⟨[(0,.pc 0 0),(7,.sl 35),(8,ii),(9,ii)],[c47,.gone,.row 71]⟩ [(.exit 0,JI)])]
def zfe (h:Xi.ty CC->G3 (zi CC Xj)):Spec CC:=⟨86,0,Xi,Xj,h⟩
def zhD (h:Xi.ty CC->G3 (zi CC Xj)) (x:zq0.ty CC):G3 (zi CC zq1):=wD ⟨false⟩ [zep,zbs,zfe h] lpO prog f162 0 zq0 zq1 zvi x
def zsr (h:Xi.ty CC->G3 (zi CC Xj)):Spec CC:=⟨162,0,zq0,zq1,zhD h⟩
theorem zw0 {h:Xi.ty CC->G3 (zi CC Xj)}(hh:Spec.OK prog (zfe h)):Spec.OK prog (zsr h):=yX (za zqZ (za zmT (za hh zf))) ZQ ZO zvi (by kernel_rfl) (by kernel_rfl) (by kernel_rfl) fun x=>rfl
def zhE (h:Xi.ty CC->G3 (zi CC Xj)) (x:zq2.ty CC):G3 (zi CC zq3):=wD ⟨false⟩ [zjA,zmU,zsr h,zep,zjB,zbs] lpO prog f130 0 zq2 zq3 zvj x
def zss (h:Xi.ty CC->G3 (zi CC Xj)):Spec CC:=⟨130,0,zq2,zq3,zhE h⟩
theorem zw1 {h:Xi.ty CC->G3 (zi CC Xj)}(hh:Spec.OK prog (zfe h)):Spec.OK prog (zss h):=yX (za zxV (za zxW (za (zw0 hh) (za zqZ (za zvh (za zmT zf)))))) ZQ ZO zvj (by kernel_rfl) (by kernel_rfl) (by kernel_rfl) fun x=>rfl
def zhF (h:Xi.ty CC->G3 (zi CC Xj)) (x:Xi.ty CC):G3 (zi CC Xj):=wD ⟨false⟩ [zss h] lpO prog f86 0 Xi Xj zvk x
def zw2 (h:Xi.ty CC->G3 (zi CC Xj)):Spec CC:=⟨86,0,Xi,Xj,zhF h⟩
theorem zw3 {h:Xi.ty CC->G3 (zi CC Xj)}(hh:Spec.OK prog (zfe h)):Spec.OK prog (zw2 h):=yX (za (zw1 hh) zf) ZQ ZO zvk (by kernel_rfl) (by kernel_rfl) (by kernel_rfl) fun x=>rfl
def zff:Nat->Xi.ty CC->G3 (zi CC Xj)
  |0=>fun _=>none
  |k+1=>zhF (zff k)
theorem zst:∀ k,Spec.OK prog (zfe (zff k))
  |0=>⟨f86,by kernel_rfl,by kernel_rfl,by kernel_rfl,fun x r h=>by cases h⟩
  |k+1=>zw3 (zst k)
def zvl (x:Xi.ty CC):G3 (zi CC Xj):=zff 100000 x
def zvm:Spec CC:=⟨86,0,Xi,Xj,zvl⟩
theorem zxX:Spec.OK prog zvm:=zst 100000
def zq4:=spA false [zvm,zbs] 36 1 f36 JT [(.ret,⟨[(0,.val 61)],[]⟩)] (hfind [(18,.loop JC [(.exit 0,⟨[(2,.pc 0 0),(3,.pc 1 0),(4,.pc 2 0)],[c39,c37,c40,.row 9,.row 71]⟩)]),(34,.cut [(.normal,JC)]),(38,.cut [(.normal,JC)])])
theorem zxY:zq4.OK prog:=kA (za zxX (za zmT zf)) (by kernel_rfl)
def zq5:=spA false [Wg] 33 0 f33 ⟨[(0,.pc 0 0),(1,.val 35),(2,.bool),(3,ii)],J0⟩ [Jc,KW] (hfind [])
theorem zxZ:zq5.OK prog:=kA (za zbr zf) (by kernel_rfl)
def zq6:Sig:=⟨[(0,.pc 0 0),(1,.pc 1 0),(2,.pc 2 0),(3,.ifc 112 (.agg [ii,ii]))],Hz⟩
def zq7:List (XK×Sig):=[(.ret,⟨[],[c28,c11,c11,.forow 53]⟩)]
def zvn:Nat->G3 Hint:=hfind [(5,.draw (od [1,3,5,7,8,10,12]) [])]
def zq8 (x:zq6.ty CC):G3 (zi CC zq7):=zbj ⟨false⟩ [] lpO prog f32 0 zq6 zq7 zvn x
def zvo:Spec CC:=⟨32,0,zq6,zq7,zq8⟩
theorem zx0:Spec.OKD prog zvo:=vu zf ZQ ZO zvn (by kernel_rfl) (by kernel_rfl) (by kernel_rfl) fun x=>rfl
def zq9:Sig:=⟨Kr,Hz⟩
def zra:List (XK×Sig):=[(.ret,⟨[],Hz⟩)]
def zvp:Nat->G3 Hint:=hfind []
def zrb (x:zq9.ty CC):G3 (zi CC zra):=zbj ⟨false⟩ [] lpO prog f32 0 zq9 zra zvp x
def zvq:Spec CC:=⟨32,0,zq9,zra,zrb⟩
theorem zx1:Spec.OKD prog zvq:=vu zf ZQ ZO zvp (by kernel_rfl) (by kernel_rfl) (by kernel_rfl) fun x=>rfl
def zrc:Sig:=⟨[(0,.val 35),(1,.sl 49),(2,.sl 80)],[]⟩
def zrd:List (XK×Sig):=[(.ret,⟨JZ,[.orow 53]⟩)]
def zvr:Nat->G3 Hint:=hfind [(3,.loop ⟨[(1,.sl 49),(2,.sl 80),(3,.pc 0 0),(6,.pc 1 0),(7,.pc 2 0),(8,.pc 3 0),(14,.clo 32 [.pc 1 0,.pc 2 0,.pc 3 0])],[c5,c28,c11,c11]⟩ []),(10,.loop Jx [Jh,(.exit 0,⟨[(3,.pc 0 0),(6,.pc 1 0),(7,.pc 2 0),(8,.pc 3 0),(9,.pc 4 0)],[c5,c28,c11,c11,c36,.orow 53]⟩)]),(18,.cut [Jh,(.normal,Jx)]),(23,.draw (od [1,3,5,7,11,13,8718,8720,16,8,18,21,23,24,14,16,18,21,23,24]) [Jh,(.normal,Jx)]),(29,.loop ⟨[(6,.pc 1 0),(7,.pc 2 0),(8,.pc 3 0),(9,.pc 4 0),(46,.sl 35),(47,ii),(48,ii)],KX⟩ [Jh,(.exit 2,⟨[(6,.pc 1 0),(7,.pc 2 0),(8,.pc 3 0),(9,.pc 4 0)],KX⟩)]),(37,.cut [Jh,(.normal,JJ)]),(44,.draw (od [1,3,5,7,9,11,13,15,17,19,21,23,25,26,29,31,33,35,36]) [Jh,(.normal,JJ)])]
def zvs (x:zrc.ty CC):G3 (zi CC zrd):=zgb ⟨false⟩ [zmI,zqU,zvg,zq4,zq5] (zvq) (zvo) lpO prog f9 3 zrc zrd zvr x
def zre:Spec CC:=⟨9,3,zrc,zrd,zvs⟩
theorem zvt:Spec.OK prog zre:=zgc (za zvb (za zxL (za zxU (za zxY (za zxZ zf))))) zx1 zx0 ZQ ZO zvr (by kernel_rfl) (by kernel_rfl) (by kernel_rfl) fun x=>rfl
def zrf:=spA false [zmH,P50,zre,zgk] 8 1 f8 ⟨[],[]⟩ Jp (hfind [(10,.cut [(.normal,⟨[(1,.pc 0 0),(3,.pc 1 0),(6,.pc 2 0),(38,.bool)],[c35,c5,c5]⟩)]),(21,.cut [(.normal,⟨[(0,.bool)],[]⟩)])])
theorem zx2:zrf.OK prog:=kA (za zu9 (za K50 (za zvt (za zmK zf)))) (by kernel_rfl)
def zgn:=spA false [zmH,P50,zrf,zre] 4 1 f4 KV Jp (hfind [(8,.cut [(.normal,⟨[(5,.pc 0 0),(7,.pc 1 0),(38,.bool)],[c35,c5]⟩)]),(28,.loop Kl [Hs,(.exit 0,⟨[(7,.pc 0 0),(10,.row 1)],[c5,.orow 53]⟩)]),(36,.cut [Hs,(.normal,Kl)]),(45,.loop ⟨[(5,.pc 0 0),(7,.pc 1 0),(10,.row 2),(14,.pc 3 0),(15,.row 4),(55,.row 2),(56,ii),(57,ii),(63,.nx 2 53),(64,ii),(65,ii)],HK⟩ [Hs,(.exit 2,⟨[(5,.pc 0 0),(7,.pc 1 0),(10,.row 2),(14,.pc 3 0),(55,.row 2),(56,ii),(57,ii)],[c35,c5,.orow 53,c55]⟩)]),(59,.cut [(.normal,⟨[(5,.pc 0 0),(7,.pc 1 0),(10,.row 2),(14,.pc 3 0),(15,.row 4),(55,.row 2),(56,ii),(57,ii),(63,.nx 2 53),(64,ii),(65,ii),(128,.bool)],HK⟩)]),(67,.cut [(.normal,⟨[(5,.pc 0 0),(7,.pc 1 0),(10,.row 2),(55,.row 2),(56,ii),(57,ii),(141,.bool)],[c35,c5,.orow 53]⟩)])])
theorem zx3:zgn.OK prog:=kA (za zu9 (za K50 (za zx2 (za zvt zf)))) (by kernel_rfl)
end
end Go.Px
