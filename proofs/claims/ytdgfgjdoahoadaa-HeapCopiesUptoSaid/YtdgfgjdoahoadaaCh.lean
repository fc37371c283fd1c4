/- Part Ch: PxT13. -/
import Derived.Test.YtdgfgjdoahoadaaProg
import Derived.Test.YtdgfgjdoahoadaaB1
import Derived.Test.YtdgfgjdoahoadaaA6
namespace Go.Px
open Go.Proofs
set_option linter.unusedVariables false
set_option maxRecDepth 100000
theorem zr:Try.prog.follows .mixedOrders=true:=by kernel_rfl
structure qh where
  Kind_:Int
  Var_:Int
  K_:Int
  Block_:Int
structure q8 where
  Origin_:Int
  Type_:Int
  At_:Int
  Live_:Bool
  Held_:Bool
  Array_:Bool
  Size_:qh
  Cells_:(Sl qh)
structure qg where
  X_:Int
  Y_:Int
  C_:Int
structure qp where
  Chunks_:(Sl q8)
  Vars_:Int
  Facts_:(Sl qg)
structure qi where
  Kind_:Int
  Var_:Int
  K_:Int
  Block_:Int
structure qd where
  Origin_:Int
  Type_:Int
  At_:Int
  Live_:Bool
  Held_:Bool
  Array_:Bool
  Size_:qi
  Cells_:(Sl qi)
structure qe where
  X_:Int
  Y_:Int
  C_:Int
structure qk where
  Chunks_:(Sl qd)
  Vars_:Int
  Facts_:(Sl qe)
structure qj where
  Kind_:Int
  P_:qh
  I_:qh
  V_:qh
  N_:Int
  Chunk_:q8
  Facts_:(Sl qg)
abbrev DT:List (Nat×Type):=[(33,qh),(49,q8),(39,qg),(2,Int),(3,Int),(28,qp),(75,qi),(80,qd),(55,qe),(46,qk),(51,qj)]
abbrev DD:Nat→Type:=zkH DT
def ET:List ((T:Nat)×TyE DD T):=[⟨33,true,[.int .i64,.int .i64,.int .i64,.int .i64],fun (x:qh)=>(x.Kind_,x.Var_,x.K_,x.Block_,()),fun (a0,a1,a2,a3,_)=>some (show qh from ⟨a0,a1,a2,a3⟩),fun x y h=>by cases h;rfl⟩,
  ⟨49,true,[.int .i64,.int .i64,.int .i64,.bool,.bool,.bool,.int .i64,.int .i64,.int .i64,.int .i64,.sl 33],fun (x:q8)=>(x.Origin_,x.Type_,x.At_,x.Live_,x.Held_,x.Array_,x.Size_.Kind_,x.Size_.Var_,x.Size_.K_,x.Size_.Block_,x.Cells_,()),fun (a0,a1,a2,a3,a4,a5,a6,a7,a8,a9,a10,_)=>some (show q8 from ⟨a0,a1,a2,a3,a4,a5,⟨a6,a7,a8,a9⟩,a10⟩),fun x y h=>by cases h;rfl⟩,
  ⟨39,true,[.int .i64,.int .i64,.int .i64],fun (x:qg)=>(x.X_,x.Y_,x.C_,()),fun (a0,a1,a2,_)=>some (show qg from ⟨a0,a1,a2⟩),fun x y h=>by cases h;rfl⟩,
  ⟨2,false,[.int .i64],fun (x:Int)=>(x,()),fun (a0,_)=>some (show Int from a0),fun x y h=>by cases h;rfl⟩,
  ⟨3,false,[.int .i64],fun (x:Int)=>(x,()),fun (a0,_)=>some (show Int from a0),fun x y h=>by cases h;rfl⟩,
  ⟨28,true,[.sl 49,.int .i64,.sl 39],fun (x:qp)=>(x.Chunks_,x.Vars_,x.Facts_,()),fun (a0,a1,a2,_)=>some (show qp from ⟨a0,a1,a2⟩),fun x y h=>by cases h;rfl⟩,
  ⟨75,true,[.int .i64,.int .i64,.int .i64,.int .i64],fun (x:qi)=>(x.Kind_,x.Var_,x.K_,x.Block_,()),fun (a0,a1,a2,a3,_)=>some (show qi from ⟨a0,a1,a2,a3⟩),fun x y h=>by cases h;rfl⟩,
  ⟨80,true,[.int .i64,.int .i64,.int .i64,.bool,.bool,.bool,.int .i64,.int .i64,.int .i64,.int .i64,.sl 75],fun (x:qd)=>(x.Origin_,x.Type_,x.At_,x.Live_,x.Held_,x.Array_,x.Size_.Kind_,x.Size_.Var_,x.Size_.K_,x.Size_.Block_,x.Cells_,()),fun (a0,a1,a2,a3,a4,a5,a6,a7,a8,a9,a10,_)=>some (show qd from ⟨a0,a1,a2,a3,a4,a5,⟨a6,a7,a8,a9⟩,a10⟩),fun x y h=>by cases h;rfl⟩,
  ⟨55,true,[.int .i64,.int .i64,.int .i64],fun (x:qe)=>(x.X_,x.Y_,x.C_,()),fun (a0,a1,a2,_)=>some (show qe from ⟨a0,a1,a2⟩),fun x y h=>by cases h;rfl⟩,
  ⟨46,true,[.sl 80,.int .i64,.sl 55],fun (x:qk)=>(x.Chunks_,x.Vars_,x.Facts_,()),fun (a0,a1,a2,_)=>some (show qk from ⟨a0,a1,a2⟩),fun x y h=>by cases h;rfl⟩,
  ⟨51,true,[.int .i64,.int .i64,.int .i64,.int .i64,.int .i64,.int .i64,.int .i64,.int .i64,.int .i64,.int .i64,.int .i64,.int .i64,.int .i64,.int .i64,.int .i64,.int .i64,.int .i64,.bool,.bool,.bool,.int .i64,.int .i64,.int .i64,.int .i64,.sl 33,.sl 39],fun (x:qj)=>(x.Kind_,x.P_.Kind_,x.P_.Var_,x.P_.K_,x.P_.Block_,x.I_.Kind_,x.I_.Var_,x.I_.K_,x.I_.Block_,x.V_.Kind_,x.V_.Var_,x.V_.K_,x.V_.Block_,x.N_,x.Chunk_.Origin_,x.Chunk_.Type_,x.Chunk_.At_,x.Chunk_.Live_,x.Chunk_.Held_,x.Chunk_.Array_,x.Chunk_.Size_.Kind_,x.Chunk_.Size_.Var_,x.Chunk_.Size_.K_,x.Chunk_.Size_.Block_,x.Chunk_.Cells_,x.Facts_,()),fun (a0,a1,a2,a3,a4,a5,a6,a7,a8,a9,a10,a11,a12,a13,a14,a15,a16,a17,a18,a19,a20,a21,a22,a23,a24,a25,_)=>some (show qj from ⟨a0,⟨a1,a2,a3,a4⟩,⟨a5,a6,a7,a8⟩,⟨a9,a10,a11,a12⟩,a13,⟨a14,a15,a16,a17,a18,a19,⟨a20,a21,a22,a23⟩,a24⟩,a25⟩),fun x y h=>by cases h;rfl⟩]
def CC:Cod:=znq DD ET (fun _ _=>True) (fun _ _ h=>h) (nst:=fun t=>bif Nat.beq t 80 then 10 else bif Nat.beq t 49 then 10 else 0) (own:=fun t=>Nat.beq t 80 || Nat.beq t 49 || false)
def I0:Sig:={ts:=[(0,.sl 33)],es:=[]}
def O0:List (XK×Sig):=[(.ret,{ts:=[(0,.row 0)],es:=[.row 33]})]
def H0:Nat→Option Hint:=hfind []
noncomputable def F0 (x:I0.ty CC):Option (zk CC O0):=zE ⟨false⟩ [] lpO Try.prog Try.f49 1 I0 O0 H0 x
noncomputable def P0:Spec CC:=⟨49,1,I0,O0,F0⟩
theorem K0:Spec.OK Try.prog P0:=zl zB zr zq H0 (by kernel_rfl) (by kernel_rfl) (by kernel_rfl) fun x=>rfl
def I1:Sig:={ts:=[(0,.row 0)],es:=[.orow 49]}
def O1:List (XK×Sig):=[(.ret,{ts:=[(0,.row 1)],es:=[.gone,.orow 49]})]
def H1:Nat→Option Hint:=hfind []
noncomputable def F1 (x:I1.ty CC):Option (zk CC O1):=zE ⟨false⟩ [] lpO Try.prog Try.f52 1 I1 O1 H1 x
noncomputable def P1:Spec CC:=⟨52,1,I1,O1,F1⟩
theorem K1:Spec.OK Try.prog P1:=zl zB zr zq H1 (by kernel_rfl) (by kernel_rfl) (by kernel_rfl) fun x=>rfl
def I2:Sig:={ts:=[(0,.pc 0 0),(1,.val 49)],es:=[.cell [.row 1,.int .i64,.row 2],.forow 49,.row 39]}
def O2:List (XK×Sig):=[(.ret,{ts:=[(0,.val 33)],es:=[.cell [.row 3,.int .i64,.row 2],.gone,.row 39,.orow 49]})]
def H2:Nat→Option Hint:=hfind [(5,.draw [(0,true),(1,true),(2,true),(3,true),(4,true),(6,true),(4423,false),(7,false),(5,false),(8,false),(9,true),(10,true),(11,false)] [(.normal,{ts:=[(0,.pc 0 0),(4,.pc 3 0)],es:=[.cell [.row 4,.int .i64,.row 2],.gone,.row 39,.cell [.val 33],.orow 49]})])]
noncomputable def F2 (x:I2.ty CC):Option (zk CC O2):=zE ⟨false⟩ [P0,P1] lpO Try.prog Try.f23 1 I2 O2 H2 x
noncomputable def P2:Spec CC:=⟨23,1,I2,O2,F2⟩
theorem K2:Spec.OK Try.prog P2:=zl (zh K0 (zh K1 zB)) zr zq H2 (by kernel_rfl) (by kernel_rfl) (by kernel_rfl) fun x=>rfl
def I3:Sig:={ts:=[(0,.int .i64)],es:=[]}
def O3:List (XK×Sig):=[(.ret,{ts:=[(0,.val 33)],es:=[]})]
def H3:Nat→Option Hint:=hfind []
noncomputable def F3 (x:I3.ty CC):Option (zk CC O3):=zE ⟨false⟩ [] lpO Try.prog Try.f25 1 I3 O3 H3 x
noncomputable def P3:Spec CC:=⟨25,1,I3,O3,F3⟩
theorem K3:Spec.OK Try.prog P3:=zl zB zr zq H3 (by kernel_rfl) (by kernel_rfl) (by kernel_rfl) fun x=>rfl
def I4:Sig:={ts:=[(0,.val 33),(1,.int .i64)],es:=[]}
def O4:List (XK×Sig):=[(.ret,{ts:=[(0,.int .i64)],es:=[]})]
def H4:Nat→Option Hint:=hfind [(8,.cut [(.ret,{ts:=[(4,.int .i64)],es:=[]}),(.normal,{ts:=[],es:=[]})])]
noncomputable def F4 (x:I4.ty CC):Option (zk CC O4):=zE ⟨false⟩ [] lpO Try.prog Try.f56 1 I4 O4 H4 x
noncomputable def P4:Spec CC:=⟨56,1,I4,O4,F4⟩
theorem K4:Spec.OK Try.prog P4:=zl zB zr zq H4 (by kernel_rfl) (by kernel_rfl) (by kernel_rfl) fun x=>rfl
def I5:Sig:={ts:=[(0,.pc 0 0),(1,.val 33)],es:=[.cell [.row 1,.int .i64,.row 2],.forow 49,.row 39]}
def O5:List (XK×Sig):=[(.ret,{ts:=[(0,.pnil),(1,.int .i64)],es:=[.cell [.row 1,.int .i64,.row 2],.forow 49,.row 39]}),(.ret,{ts:=[(0,.pr 1 49 0),(1,.int .i64)],es:=[.cell [.row 1,.int .i64,.row 2],.forow 49,.row 39]})]
def H5:Nat→Option Hint:=hfind [(14,.draw [(0,true),(1,true),(2,true),(3,true),(4,true),(5,true),(6,true),(7,true),(8,true),(9,true),(10,true),(11,true),(12,true),(13,true),(14,true),(15,true),(16,true),(17,true),(18,true),(19,true),(20,true),(21,true),(22,true),(23,true),(24,true)] [(.normal,{ts:=[(0,.pc 0 0),(3,.pc 3 0),(36,.bool)],es:=[.cell [.row 1,.int .i64,.row 2],.forow 49,.row 39,.cell [.val 33]]})]),(21,.draw [(0,true),(1,true),(2,true),(3,true),(4,true),(5,true),(6,true),(7,true),(8,true)] [])]
noncomputable def F5 (x:I5.ty CC):Option (zk CC O5):=zE ⟨false⟩ [P4] lpO Try.prog Try.f58 2 I5 O5 H5 x
noncomputable def P5:Spec CC:=⟨58,2,I5,O5,F5⟩
theorem K5:Spec.OK Try.prog P5:=zl (zh K4 zB) zr zq H5 (by kernel_rfl) (by kernel_rfl) (by kernel_rfl) fun x=>rfl
def I6:Sig:={ts:=[(0,.sl 39)],es:=[]}
def O6:List (XK×Sig):=[(.ret,{ts:=[(0,.row 0)],es:=[.row 39]})]
def H6:Nat→Option Hint:=hfind []
noncomputable def F6 (x:I6.ty CC):Option (zk CC O6):=zE ⟨false⟩ [] lpO Try.prog Try.f48 1 I6 O6 H6 x
noncomputable def P6:Spec CC:=⟨48,1,I6,O6,F6⟩
theorem K6:Spec.OK Try.prog P6:=zl zB zr zq H6 (by kernel_rfl) (by kernel_rfl) (by kernel_rfl) fun x=>rfl
def I7:Sig:={ts:=[(0,.val 39),(1,.pc 0 0)],es:=[.cell [.int .i64]]}
def O7:List (XK×Sig):=[(.ret,{ts:=[(0,.bool)],es:=[.cell [.int .i64]]})]
def H7:Nat→Option Hint:=hfind [(3,.cut [(.normal,{ts:=[(3,.bool)],es:=[.cell [.int .i64]]})])]
noncomputable def F7 (x:I7.ty CC):Option (zk CC O7):=zE ⟨false⟩ [] lpO Try.prog Try.f70 1 I7 O7 H7 x
noncomputable def P7:Spec CC:=⟨70,1,I7,O7,F7⟩
theorem K7:Spec.OK Try.prog P7:=zl zB zr zq H7 (by kernel_rfl) (by kernel_rfl) (by kernel_rfl) fun x=>rfl
def I8:Sig:={ts:=[(0,.sl 39),(1,.clo 70 [.pc 0 0])],es:=[.cell [.int .i64]]}
def O8:List (XK×Sig):=[(.ret,{ts:=[(0,.int .i64)],es:=[.cell [.int .i64]]})]
def H8:Nat→Option Hint:=hfind [(6,.loop {ts:=[(0,.sl 39),(1,.clo 70 [.pc 0 0]),(7,.int .i64),(8,.int .i64)],es:=[.cell [.int .i64]]} [(.ret,{ts:=[(4,.int .i64)],es:=[.cell [.int .i64]]}),(.exit 0,{ts:=[],es:=[.cell [.int .i64]]})])]
noncomputable def F8 (x:I8.ty CC):Option (zk CC O8):=zE ⟨false⟩ [P7] lpO Try.prog Try.f69 1 I8 O8 H8 x
noncomputable def P8:Spec CC:=⟨69,1,I8,O8,F8⟩
theorem K8:Spec.OK Try.prog P8:=zl (zh K7 zB) zr zq H8 (by kernel_rfl) (by kernel_rfl) (by kernel_rfl) fun x=>rfl
def I9:Sig:={ts:=[(0,.sl 39),(1,.clo 70 [.pc 0 0])],es:=[.cell [.int .i64]]}
def O9:List (XK×Sig):=[(.ret,{ts:=[(0,.bool)],es:=[.cell [.int .i64]]})]
def H9:Nat→Option Hint:=hfind []
noncomputable def F9 (x:I9.ty CC):Option (zk CC O9):=zE ⟨false⟩ [P8] lpO Try.prog Try.f62 1 I9 O9 H9 x
noncomputable def P9:Spec CC:=⟨62,1,I9,O9,F9⟩
theorem K9:Spec.OK Try.prog P9:=zl (zh K8 zB) zr zq H9 (by kernel_rfl) (by kernel_rfl) (by kernel_rfl) fun x=>rfl
def I10:Sig:={ts:=[(0,.int .i64),(1,.sl 39)],es:=[]}
def O10:List (XK×Sig):=[(.ret,{ts:=[(0,.int .i64)],es:=[]})]
def H10:Nat→Option Hint:=hfind [(12,.cut [(.normal,{ts:=[(1,.sl 39),(2,.pc 0 0),(14,.bool)],es:=[.cell [.int .i64]]})])]
noncomputable def F10 (x:I10.ty CC):Option (zk CC O10):=zE ⟨false⟩ [P9] lpO Try.prog Try.f64 1 I10 O10 H10 x
noncomputable def P10:Spec CC:=⟨64,1,I10,O10,F10⟩
theorem K10:Spec.OK Try.prog P10:=zl (zh K9 zB) zr zq H10 (by kernel_rfl) (by kernel_rfl) (by kernel_rfl) fun x=>rfl
def I11:Sig:={ts:=[(0,.int .i64),(1,.sl 39)],es:=[]}
def O11:List (XK×Sig):=[(.ret,{ts:=[(0,.row 0),(1,.nils)],es:=[.row 2]}),(.ret,{ts:=[(0,.nils),(1,.row 0)],es:=[.row 3]})]
def H11:Nat→Option Hint:=hfind [(12,.loop {ts:=[(0,.int .i64),(1,.sl 39),(6,.row 0),(7,.row 1),(8,.int .i64),(20,.int .i64),(21,.int .i64)],es:=[.row 2,.row 3]} [(.ret,{ts:=[(4,.row 0),(5,.nils)],es:=[.row 2]}),(.exit 0,{ts:=[(0,.int .i64),(1,.sl 39),(7,.row 0),(8,.int .i64)],es:=[.row 3]})]),(27,.loop {ts:=[(0,.int .i64),(1,.sl 39),(6,.row 0),(7,.row 1),(8,.int .i64),(20,.int .i64),(21,.int .i64),(23,.sl 39),(24,.int .i64),(25,.int .i64)],es:=[.row 2,.row 3]} [(.exit 2,{ts:=[(0,.int .i64),(1,.sl 39),(6,.row 0),(7,.row 1),(8,.int .i64),(20,.int .i64),(21,.int .i64)],es:=[.row 2,.row 3]})]),(39,.draw [(0,true),(1,true),(2,true),(3,true),(4,true),(5,true),(6,true),(7,true),(8,true)] []),(42,.cut [(.normal,{ts:=[(0,.int .i64),(1,.sl 39),(6,.row 0),(7,.row 1),(8,.int .i64),(20,.int .i64),(21,.int .i64),(23,.sl 39),(24,.int .i64),(25,.int .i64)],es:=[.row 2,.row 3]})]),(43,.draw [(0,true),(1,true),(2,true),(3,true),(4,true),(5,true),(6,true),(7,true),(8,true),(9,true),(10,false),(11,true),(12,false),(13,true)] []),(60,.loop {ts:=[(1,.sl 39),(7,.row 0),(12,.int .i64),(66,.int .i64),(67,.int .i64)],es:=[.row 3]} [(.exit 4,{ts:=[(1,.sl 39),(7,.row 0),(12,.int .i64)],es:=[.row 3]})]),(76,.loop {ts:=[(1,.sl 39),(7,.row 0),(12,.int .i64),(13,.row 1),(14,.int .i64)],es:=[.row 3,.row 3]} [(.ret,{ts:=[(4,.nils),(5,.row 0)],es:=[.row 3]})])]
noncomputable def F11 (x:I11.ty CC):Option (zk CC O11):=zE ⟨false⟩ [] lpO Try.prog Try.f65 2 I11 O11 H11 x
noncomputable def P11:Spec CC:=⟨65,2,I11,O11,F11⟩
theorem K11:Spec.OK Try.prog P11:=zl zB zr zq H11 (by kernel_rfl) (by kernel_rfl) (by kernel_rfl) fun x=>rfl
def I12:Sig:={ts:=[(0,.int .i64),(1,.val 39),(2,.sl 39)],es:=[]}
def O12:List (XK×Sig):=[(.ret,{ts:=[(0,.bool),(1,.int .i64)],es:=[]})]
def H12:Nat→Option Hint:=hfind [(3,.draw [(0,true),(2,true),(3,true),(1,false),(4,false),(5,true)] []),(25,.cut [(.normal,{ts:=[(11,.row 0)],es:=[.row 3]})])]
noncomputable def F12 (x:I12.ty CC):Option (zk CC O12):=zE ⟨false⟩ [P6,P10,P11] lpO Try.prog Try.f45 2 I12 O12 H12 x
noncomputable def P12:Spec CC:=⟨45,2,I12,O12,F12⟩
theorem K12:Spec.OK Try.prog P12:=zl (zh K6 (zh K10 (zh K11 zB))) zr zq H12 (by kernel_rfl) (by kernel_rfl) (by kernel_rfl) fun x=>rfl
def I13:Sig:={ts:=[(0,.pc 0 0),(1,.val 39)],es:=[.cell [.row 1,.int .i64,.row 2],.forow 49,.row 39]}
def O13:List (XK×Sig):=[(.ret,{ts:=[(0,.bool)],es:=[.cell [.row 1,.int .i64,.row 2],.forow 49,.row 39]})]
def H13:Nat→Option Hint:=hfind [(3,.draw [(0,true),(1,true),(2,true),(3,true),(4,true),(5,true),(6,true),(7,true),(8,true),(9,false),(10,true),(11,true),(12,true),(13,true),(14,true)] []),(5,.cut [(.normal,{ts:=[(4,.bool)],es:=[.cell [.row 1,.int .i64,.row 2],.forow 49,.row 39]})])]
noncomputable def F13 (x:I13.ty CC):Option (zk CC O13):=zE ⟨false⟩ [P12] lpO Try.prog Try.f15 1 I13 O13 H13 x
noncomputable def P13:Spec CC:=⟨15,1,I13,O13,F13⟩
theorem K13:Spec.OK Try.prog P13:=zl (zh K12 zB) zr zq H13 (by kernel_rfl) (by kernel_rfl) (by kernel_rfl) fun x=>rfl
def I14:Sig:={ts:=[(0,.pc 0 0),(1,.val 33),(2,.val 33)],es:=[.cell [.row 1,.int .i64,.row 2],.forow 49,.row 39]}
def O14:List (XK×Sig):=[(.ret,{ts:=[(0,.bool)],es:=[.cell [.row 1,.int .i64,.row 2],.forow 49,.row 39]})]
def H14:Nat→Option Hint:=hfind [(3,.cut [(.normal,{ts:=[(6,.bool)],es:=[.cell [.row 1,.int .i64,.row 2],.forow 49,.row 39]})])]
noncomputable def F14 (x:I14.ty CC):Option (zk CC O14):=zE ⟨false⟩ [P13] lpO Try.prog Try.f67 1 I14 O14 H14 x
noncomputable def P14:Spec CC:=⟨67,1,I14,O14,F14⟩
theorem K14:Spec.OK Try.prog P14:=zl (zh K13 zB) zr zq H14 (by kernel_rfl) (by kernel_rfl) (by kernel_rfl) fun x=>rfl
def I15:Sig:={ts:=[(0,.pc 0 0),(1,.val 33),(2,.val 33),(3,.bool)],es:=[.cell [.row 1,.int .i64,.row 2],.forow 49,.row 39]}
def O15:List (XK×Sig):=[(.ret,{ts:=[(0,.pnil),(1,.int .i64)],es:=[.cell [.row 1,.int .i64,.row 2],.forow 49,.row 39]}),(.ret,{ts:=[(0,.pr 1 49 0),(1,.int .i64)],es:=[.cell [.row 1,.int .i64,.row 2],.forow 49,.row 39]})]
def H15:Nat→Option Hint:=hfind [(23,.cut [(.normal,{ts:=[(0,.pc 0 0),(3,.bool),(6,.pc 3 0),(12,.pnil),(13,.int .i64)],es:=[.cell [.row 1,.int .i64,.row 2],.forow 49,.row 39,.cell [.val 33]]}),(.normal,{ts:=[(0,.pc 0 0),(3,.bool),(6,.pc 3 0),(12,.pr 1 49 0),(13,.int .i64)],es:=[.cell [.row 1,.int .i64,.row 2],.forow 49,.row 39,.cell [.val 33]]})]),(28,.cut [(.ret,{ts:=[(8,.pnil),(9,.int .i64)],es:=[.cell [.row 1,.int .i64,.row 2],.forow 49,.row 39]}),(.normal,{ts:=[(12,.pr 1 49 0)],es:=[.cell [.row 1,.int .i64,.row 2],.forow 49,.row 39]})]),(33,.cut [(.normal,{ts:=[(0,.pc 0 0),(6,.pc 3 0),(12,.pr 1 49 0),(34,.bool)],es:=[.cell [.row 1,.int .i64,.row 2],.forow 49,.row 39,.cell [.val 33]]})]),(34,.cut [(.ret,{ts:=[(8,.pnil),(9,.int .i64)],es:=[.cell [.row 1,.int .i64,.row 2],.forow 49,.row 39]}),(.normal,{ts:=[(12,.pr 1 49 0)],es:=[.cell [.row 1,.int .i64,.row 2],.forow 49,.row 39]})]),(39,.cut [(.normal,{ts:=[(0,.pc 0 0),(6,.pc 3 0),(12,.pr 1 49 0),(50,.bool)],es:=[.cell [.row 1,.int .i64,.row 2],.forow 49,.row 39,.cell [.val 33]]})]),(40,.cut [(.ret,{ts:=[(8,.pnil),(9,.int .i64)],es:=[.cell [.row 1,.int .i64,.row 2],.forow 49,.row 39]}),(.normal,{ts:=[(12,.pr 1 49 0)],es:=[.cell [.row 1,.int .i64,.row 2],.forow 49,.row 39]})]),(46,.cut [(.ret,{ts:=[(8,.pnil),(9,.int .i64)],es:=[.cell [.row 1,.int .i64,.row 2],.forow 49,.row 39]}),(.normal,{ts:=[(12,.pr 1 49 0)],es:=[.cell [.row 1,.int .i64,.row 2],.forow 49,.row 39]})]),(48,.draw [(0,true),(1,true),(2,true),(3,true),(4,true),(5,true),(6,false),(7,true)] []),(55,.draw [(0,true),(1,true),(2,true),(3,true),(4,true),(5,true),(6,true),(7,true),(8,true),(9,true),(10,true),(11,true),(12,true),(13,true),(14,true),(15,true),(16,true),(17,true),(18,true)] [(.normal,{ts:=[(6,.pc 3 0),(12,.pr 1 49 0),(76,.bool)],es:=[.cell [.row 1,.int .i64,.row 2],.forow 49,.row 39,.cell [.val 33]]})]),(56,.cut [(.ret,{ts:=[(8,.pnil),(9,.int .i64)],es:=[.cell [.row 1,.int .i64,.row 2],.forow 49,.row 39]}),(.normal,{ts:=[(12,.pr 1 49 0)],es:=[.cell [.row 1,.int .i64,.row 2],.forow 49,.row 39]})]),(61,.draw [(0,true),(1,true),(2,true),(3,true),(4,true),(5,true),(6,true),(7,true),(8,true),(9,true),(10,true),(11,true),(12,true),(13,true),(14,true)] [(.normal,{ts:=[(12,.pr 1 49 0),(95,.bool)],es:=[.cell [.row 1,.int .i64,.row 2],.forow 49,.row 39]})])]
noncomputable def F15 (x:I15.ty CC):Option (zk CC O15):=zE ⟨false⟩ [P4,P5,P14] lpO Try.prog Try.f53 2 I15 O15 H15 x
noncomputable def P15:Spec CC:=⟨53,2,I15,O15,F15⟩
theorem K15:Spec.OK Try.prog P15:=zl (zh K4 (zh K5 (zh K14 zB))) zr zq H15 (by kernel_rfl) (by kernel_rfl) (by kernel_rfl) fun x=>rfl
def I16:Sig:={ts:=[(0,.row 0)],es:=[.row 39]}
def O16:List (XK×Sig):=[(.ret,{ts:=[(0,.row 1)],es:=[.gone,.row 39]})]
def H16:Nat→Option Hint:=hfind []
noncomputable def F16 (x:I16.ty CC):Option (zk CC O16):=zE ⟨false⟩ [] lpO Try.prog Try.f51 1 I16 O16 H16 x
noncomputable def P16:Spec CC:=⟨51,1,I16,O16,F16⟩
theorem K16:Spec.OK Try.prog P16:=zl zB zr zq H16 (by kernel_rfl) (by kernel_rfl) (by kernel_rfl) fun x=>rfl
def I17:Sig:={ts:=[(0,.pc 0 0),(1,.sl 39)],es:=[.cell [.row 1,.int .i64,.row 2],.forow 49,.row 39]}
def O17:List (XK×Sig):=[(.ret,{ts:=[(0,.int .i64)],es:=[.cell [.row 1,.int .i64,.row 3],.forow 49,.gone,.row 39]})]
def H17:Nat→Option Hint:=hfind []
noncomputable def F17 (x:I17.ty CC):Option (zk CC O17):=zE ⟨false⟩ [P16] lpO Try.prog Try.f22 1 I17 O17 H17 x
noncomputable def P17:Spec CC:=⟨22,1,I17,O17,F17⟩
theorem K17:Spec.OK Try.prog P17:=zl (zh K16 zB) zr zq H17 (by kernel_rfl) (by kernel_rfl) (by kernel_rfl) fun x=>rfl
def I18:Sig:={ts:=[(0,.pc 0 0)],es:=[.cell [.row 1,.int .i64,.row 2],.forow 49,.row 39]}
def O18:List (XK×Sig):=[(.ret,{ts:=[(0,.val 33),(1,.int .i64)],es:=[.cell [.row 1,.int .i64,.row 3],.forow 49,.gone,.row 39]})]
def H18:Nat→Option Hint:=hfind []
noncomputable def F18 (x:I18.ty CC):Option (zk CC O18):=zE ⟨false⟩ [P17] lpO Try.prog Try.f21 2 I18 O18 H18 x
noncomputable def P18:Spec CC:=⟨21,2,I18,O18,F18⟩
theorem K18:Spec.OK Try.prog P18:=zl (zh K17 zB) zr zq H18 (by kernel_rfl) (by kernel_rfl) (by kernel_rfl) fun x=>rfl
def I19:Sig:={ts:=[(0,.pc 0 0),(1,.val 33),(2,.val 33)],es:=[.cell [.row 1,.int .i64,.row 2],.forow 49,.row 39]}
def O19:List (XK×Sig):=[(.ret,{ts:=[(0,.val 33),(1,.int .i64)],es:=[.cell [.row 1,.int .i64,.row 3],.forow 49,.gone,.row 39]})]
def H19:Nat→Option Hint:=hfind [(3,.cut [(.normal,{ts:=[(0,.pc 0 0),(5,.pc 3 0),(6,.pc 4 0),(8,.pnil),(9,.int .i64)],es:=[.cell [.row 1,.int .i64,.row 2],.forow 49,.row 39,.cell [.val 33],.cell [.val 33]]}),(.normal,{ts:=[(0,.pc 0 0),(5,.pc 3 0),(6,.pc 4 0),(8,.pr 1 49 0),(9,.int .i64)],es:=[.cell [.row 1,.int .i64,.row 2],.forow 49,.row 39,.cell [.val 33],.cell [.val 33]]})]),(8,.cut [(.ret,{ts:=[(6,.pc 3 0),(7,.int .i64)],es:=[.cell [.row 1,.int .i64,.row 4],.forow 49,.gone,.cell [.val 33],.row 39]}),(.normal,{ts:=[(5,.pc 3 0),(6,.pc 4 0),(8,.pr 1 49 0)],es:=[.cell [.row 1,.int .i64,.row 2],.forow 49,.row 39,.cell [.val 33],.cell [.val 33]]})]),(14,.cut [(.ret,{ts:=[(6,.pc 3 0),(7,.int .i64)],es:=[.cell [.row 1,.int .i64,.row 4],.forow 49,.gone,.cell [.val 33],.row 39]}),(.normal,{ts:=[(5,.pc 3 0),(6,.pc 4 0),(8,.pr 1 49 0)],es:=[.cell [.row 1,.int .i64,.row 2],.forow 49,.row 39,.cell [.val 33],.cell [.val 33]]})]),(19,.draw [(0,true),(1,true),(2,true),(3,true),(4,true),(5,true),(6,true),(7,true),(8,true),(9,true),(10,true)] []),(26,.draw [(0,true),(1,true),(2,true),(3,true),(4,true),(5,true),(6,true),(7,true),(8,false),(9,true)] [])]
noncomputable def F19 (x:I19.ty CC):Option (zk CC O19):=zE ⟨false⟩ [P15,P18] lpO Try.prog Try.f24 2 I19 O19 H19 x
noncomputable def P19:Spec CC:=⟨24,2,I19,O19,F19⟩
theorem K19:Spec.OK Try.prog P19:=zl (zh K15 (zh K18 zB)) zr zq H19 (by kernel_rfl) (by kernel_rfl) (by kernel_rfl) fun x=>rfl
def I20:Sig:={ts:=[(0,.pc 0 0),(1,.val 33),(2,.int .i64),(3,.bool)],es:=[.cell [.row 1,.int .i64,.row 2],.forow 49,.row 39]}
def O20:List (XK×Sig):=[(.ret,{ts:=[(0,.pnil),(1,.int .i64)],es:=[.cell [.row 1,.int .i64,.row 2],.forow 49,.row 39]}),(.ret,{ts:=[(0,.pr 1 49 0),(1,.int .i64)],es:=[.cell [.row 1,.int .i64,.row 2],.forow 49,.row 39]})]
def H20:Nat→Option Hint:=hfind [(3,.cut [(.normal,{ts:=[(2,.int .i64),(3,.bool),(10,.pnil),(11,.int .i64)],es:=[.cell [.row 1,.int .i64,.row 2],.forow 49,.row 39]}),(.normal,{ts:=[(2,.int .i64),(3,.bool),(10,.pr 1 49 0),(11,.int .i64)],es:=[.cell [.row 1,.int .i64,.row 2],.forow 49,.row 39]})]),(8,.cut [(.ret,{ts:=[(8,.pnil),(9,.int .i64)],es:=[.cell [.row 1,.int .i64,.row 2],.forow 49,.row 39]}),(.normal,{ts:=[(10,.pr 1 49 0)],es:=[.cell [.row 1,.int .i64,.row 2],.forow 49,.row 39]})]),(13,.cut [(.normal,{ts:=[(2,.int .i64),(10,.pr 1 49 0),(22,.bool)],es:=[.cell [.row 1,.int .i64,.row 2],.forow 49,.row 39]})]),(14,.cut [(.ret,{ts:=[(8,.pnil),(9,.int .i64)],es:=[.cell [.row 1,.int .i64,.row 2],.forow 49,.row 39]}),(.normal,{ts:=[(10,.pr 1 49 0)],es:=[.cell [.row 1,.int .i64,.row 2],.forow 49,.row 39]})])]
noncomputable def F20 (x:I20.ty CC):Option (zk CC O20):=zE ⟨false⟩ [P5] lpO Try.prog Try.f54 2 I20 O20 H20 x
noncomputable def P20:Spec CC:=⟨54,2,I20,O20,F20⟩
theorem K20:Spec.OK Try.prog P20:=zl (zh K5 zB) zr zq H20 (by kernel_rfl) (by kernel_rfl) (by kernel_rfl) fun x=>rfl
def I21:Sig:={ts:=[(0,.sl 49)],es:=[]}
def O21:List (XK×Sig):=[(.ret,{ts:=[(0,.row 0)],es:=[.row 49]})]
def H21:Nat→Option Hint:=hfind []
noncomputable def F21 (x:I21.ty CC):Option (zk CC O21):=zE ⟨false⟩ [] lpO Try.prog Try.f47 1 I21 O21 H21 x
noncomputable def P21:Spec CC:=⟨47,1,I21,O21,F21⟩
theorem K21:Spec.OK Try.prog P21:=zl zB zr zq H21 (by kernel_rfl) (by kernel_rfl) (by kernel_rfl) fun x=>rfl
def I22:Sig:={ts:=[(0,.pz 28 0)],es:=[]}
def O22:List (XK×Sig):=[(.ret,{ts:=[(0,.pc 0 0)],es:=[.cell [.row 1,.int .i64,.row 2],.orow 49,.row 39]})]
def H22:Nat→Option Hint:=hfind [(3,.draw [(0,true),(1,true),(2,true),(3,true),(5,true),(6,true),(7,true),(8,true),(9,true),(10,true),(11,true),(12,true),(4,false),(13,false),(14,true),(15,false),(16,true)] []),(8,.loop {ts:=[(3,.pc 0 0),(25,.int .i64),(26,.int .i64)],es:=[.cell [.row 1,.int .i64,.row 2],.xrow 49,.row 39]} [(.exit 0,{ts:=[(3,.pc 0 0)],es:=[.cell [.row 1,.int .i64,.row 2],.xrow 49,.row 39]})]),(19,.draw [(0,true),(1,true),(2,true),(3,true),(4,true),(5,true),(6,true),(7,true),(8,true),(9,true),(10,true),(11,true),(12,true),(13,false),(14,true),(15,true),(16,false)] [])]
noncomputable def F22 (x:I22.ty CC):Option (zk CC O22):=zE ⟨false⟩ [P21,P6,P0] lpO Try.prog Try.f17 1 I22 O22 H22 x
noncomputable def P22:Spec CC:=⟨17,1,I22,O22,F22⟩
theorem K22:Spec.OK Try.prog P22:=zl (zh K21 (zh K6 (zh K0 zB))) zr zq H22 (by kernel_rfl) (by kernel_rfl) (by kernel_rfl) fun x=>rfl
def I23:Sig:={ts:=[(0,.int .i64),(1,.pc 0 0)],es:=[.cell [.sl 33]]}
def O23:List (XK×Sig):=[(.ret,{ts:=[(0,.int .i64),(1,.int .i64)],es:=[.cell [.sl 33]]})]
def H23:Nat→Option Hint:=hfind [(4,.cut [(.normal,{ts:=[(0,.int .i64),(1,.pc 0 0),(15,.bool)],es:=[.cell [.sl 33]]})]),(11,.draw [(0,true),(1,true),(2,true),(3,true),(4,true),(5,true),(6,true),(7,true),(8,true),(9,true),(10,true),(11,true),(12,true),(13,true)] [])]
noncomputable def F23 (x:I23.ty CC):Option (zk CC O23):=zE ⟨false⟩ [] lpO Try.prog Try.f27 2 I23 O23 H23 x
noncomputable def P23:Spec CC:=⟨27,2,I23,O23,F23⟩
theorem K23:Spec.OK Try.prog P23:=zl zB zr zq H23 (by kernel_rfl) (by kernel_rfl) (by kernel_rfl) fun x=>rfl
def I24:Sig:={ts:=[(0,.sl 39),(1,.sl 33)],es:=[]}
def O24:List (XK×Sig):=[(.ret,{ts:=[(0,.row 0)],es:=[.row 39]})]
def H24:Nat→Option Hint:=hfind [(10,.loop {ts:=[(5,.clo 27 [.pc 0 0]),(6,.row 1),(14,.sl 39),(15,.int .i64),(16,.int .i64)],es:=[.cell [.sl 33],.row 39]} [(.exit 0,{ts:=[(6,.row 0)],es:=[.row 39]})])]
noncomputable def F24 (x:I24.ty CC):Option (zk CC O24):=zE ⟨false⟩ [P23] lpO Try.prog Try.f12 1 I24 O24 H24 x
noncomputable def P24:Spec CC:=⟨12,1,I24,O24,F24⟩
theorem K24:Spec.OK Try.prog P24:=zl (zh K23 zB) zr zq H24 (by kernel_rfl) (by kernel_rfl) (by kernel_rfl) fun x=>rfl
def I25:Sig:={ts:=[(0,.pc 0 0),(1,.val 33),(2,.int .i64),(3,.sl 39)],es:=[.cell [.row 1,.int .i64,.row 2],.forow 49,.row 39]}
def O25:List (XK×Sig):=[(.ret,{ts:=[(0,.int .i64)],es:=[.cell [.row 1,.int .i64,.row 2],.forow 49,.row 39]}),(.ret,{ts:=[(0,.int .i64)],es:=[.cell [.row 3,.int .i64,.row 4],.forow 49,.row 39,.orow 49,.row 39]})]
def H25:Nat→Option Hint:=hfind [(4,.cut [(.normal,{ts:=[(0,.pc 0 0),(3,.sl 39),(5,.pc 3 0),(10,.int .i64)],es:=[.cell [.row 1,.int .i64,.row 2],.forow 49,.row 39,.cell [.val 33]]})]),(15,.draw [(0,true),(1,true),(2,true),(3,true),(4,true),(5,true),(6,true),(7,true)] []),(20,.loop {ts:=[(0,.pc 0 0),(3,.sl 39),(11,.pc 3 0),(12,.pr 4 49 0),(40,.int .i64),(41,.int .i64)],es:=[.cell [.row 1,.int .i64,.row 2],.forow 49,.row 39,.cell [.row 4,.int .i64,.row 5],.orow 49,.row 39]} [(.ret,{ts:=[(8,.int .i64)],es:=[.cell [.row 1,.int .i64,.row 2],.forow 49,.row 39]}),(.exit 0,{ts:=[(0,.pc 0 0),(3,.sl 39),(11,.pc 3 0),(12,.pr 4 49 0)],es:=[.cell [.row 1,.int .i64,.row 2],.forow 49,.row 39,.cell [.row 4,.int .i64,.row 5],.orow 49,.row 39]})]),(28,.cut [(.normal,{ts:=[(0,.pc 0 0),(3,.sl 39),(11,.pc 3 0),(12,.pr 4 49 0),(40,.int .i64),(41,.int .i64)],es:=[.cell [.row 1,.int .i64,.row 2],.forow 49,.row 39,.cell [.row 4,.int .i64,.row 5],.orow 49,.row 39]}),(.ret,{ts:=[(8,.int .i64)],es:=[.cell [.row 1,.int .i64,.row 2],.forow 49,.row 39]})]),(47,.draw [(0,true),(1,true),(2,true),(3,true),(4,true),(5,true),(6,true),(7,false)] [])]
noncomputable def F25 (x:I25.ty CC):Option (zk CC O25):=zE ⟨false⟩ [P20,P22,P18,P24,P17] lpO Try.prog Try.f26 1 I25 O25 H25 x
noncomputable def P25:Spec CC:=⟨26,1,I25,O25,F25⟩
theorem K25:Spec.OK Try.prog P25:=zl (zh K20 (zh K22 (zh K18 (zh K24 (zh K17 zB))))) zr zq H25 (by kernel_rfl) (by kernel_rfl) (by kernel_rfl) fun x=>rfl
def I26:Sig:={ts:=[],es:=[]}
def O26:List (XK×Sig):=[(.ret,{ts:=[(0,.bool)],es:=[]})]
def H26:Nat→Option Hint:=hfind [(7,.draw [(0,true),(1,true),(2,false),(3,false),(4,true),(5,true),(6,true),(7,false),(8,false),(9,true)] []),(9,.cut [(.normal,{ts:=[(1,.pc 0 0),(2,.pc 1 0),(4,.int .i64),(5,.int .i64)],es:=[.cell [.row 2,.int .i64,.row 3],.cell [.val 33],.orow 49,.row 39]})]),(11,.draw [(0,true),(1,true),(2,false),(3,false),(4,true),(5,true),(6,true),(7,false),(8,false),(9,true)] []),(13,.draw [(0,true),(1,true),(2,false),(3,false),(4,true),(5,true),(6,true),(7,false),(8,false),(9,true)] []),(15,.cut [(.normal,{ts:=[(0,.bool)],es:=[]})])]
noncomputable def F26 (x:I26.ty CC):Option (zk CC O26):=zE ⟨false⟩ [P2,P3,P19,P25] lpO Try.prog Try.f8 1 I26 O26 H26 x
noncomputable def P26:Spec CC:=⟨8,1,I26,O26,F26⟩
theorem K26:Spec.OK Try.prog P26:=zl (zh K2 (zh K3 (zh K19 (zh K25 zB)))) zr zq H26 (by kernel_rfl) (by kernel_rfl) (by kernel_rfl) fun x=>rfl
def I27:Sig:={ts:=[(0,.int .i64)],es:=[]}
def O27:List (XK×Sig):=[(.ret,{ts:=[(0,.int .i64)],es:=[]})]
def H27:Nat→Option Hint:=hfind []
noncomputable def F27 (x:I27.ty CC):Option (zk CC O27):=zE ⟨false⟩ [] lpO Try.prog Try.f9 1 I27 O27 H27 x
noncomputable def P27:Spec CC:=⟨9,1,I27,O27,F27⟩
theorem K27:Spec.OK Try.prog P27:=zl zB zr zq H27 (by kernel_rfl) (by kernel_rfl) (by kernel_rfl) fun x=>rfl
def I28:Sig:={ts:=[(0,.pc 0 0),(1,.val 33)],es:=[.cell [.row 1,.int .i64,.row 2],.forow 49,.row 39]}
def O28:List (XK×Sig):=[(.ret,{ts:=[(0,.val 33)],es:=[.cell [.row 1,.int .i64,.row 2],.forow 49,.row 39]})]
def H28:Nat→Option Hint:=hfind [(8,.cut [(.ret,{ts:=[(4,.pc 3 0)],es:=[.cell [.row 1,.int .i64,.row 2],.forow 49,.row 39,.cell [.val 33]]}),(.normal,{ts:=[(4,.pc 3 0)],es:=[.cell [.row 1,.int .i64,.row 2],.forow 49,.row 39,.cell [.val 33]]})]),(10,.draw [(0,true),(1,true),(2,true),(3,true),(4,true),(5,true),(6,true),(7,true),(8,true),(9,true),(10,false),(11,true),(12,false)] []),(14,.cut [(.ret,{ts:=[(4,.pc 3 0)],es:=[.cell [.row 1,.int .i64,.row 2],.forow 49,.row 39,.cell [.val 33]]}),(.normal,{ts:=[(4,.pc 3 0)],es:=[.cell [.row 1,.int .i64,.row 2],.forow 49,.row 39,.cell [.val 33]]})])]
noncomputable def F28 (x:I28.ty CC):Option (zk CC O28):=zE ⟨false⟩ [P27] lpO Try.prog Try.f10 1 I28 O28 H28 x
noncomputable def P28:Spec CC:=⟨10,1,I28,O28,F28⟩
theorem K28:Spec.OK Try.prog P28:=zl (zh K27 zB) zr zq H28 (by kernel_rfl) (by kernel_rfl) (by kernel_rfl) fun x=>rfl
def I29:Sig:={ts:=[(0,.sl 39),(1,.int .i64)],es:=[]}
def O29:List (XK×Sig):=[(.ret,{ts:=[(0,.row 0)],es:=[.row 39]})]
def H29:Nat→Option Hint:=hfind [(8,.loop {ts:=[(1,.int .i64),(5,.row 0),(12,.sl 39),(13,.int .i64),(14,.int .i64)],es:=[.row 39]} [(.exit 0,{ts:=[(5,.row 0)],es:=[.row 39]})]),(19,.draw [(0,true),(1,true),(2,true),(3,true),(4,true),(5,true),(6,true),(7,true),(8,true),(9,true),(10,true),(11,true),(12,true),(13,false),(14,true),(15,false),(16,false),(17,false)] [])]
noncomputable def F29 (x:I29.ty CC):Option (zk CC O29):=zE ⟨false⟩ [P27] lpO Try.prog Try.f11 1 I29 O29 H29 x
noncomputable def P29:Spec CC:=⟨11,1,I29,O29,F29⟩
theorem K29:Spec.OK Try.prog P29:=zl (zh K27 zB) zr zq H29 (by kernel_rfl) (by kernel_rfl) (by kernel_rfl) fun x=>rfl
def I30:Sig:={ts:=[(0,.pc 0 0),(1,.val 49)],es:=[.cell [.row 1,.int .i64,.row 2],.forow 49,.row 39]}
def O30:List (XK×Sig):=[(.ret,{ts:=[(0,.val 49)],es:=[.cell [.row 1,.int .i64,.row 2],.forow 49,.row 39]})]
def H30:Nat→Option Hint:=hfind [(18,.loop {ts:=[(0,.pc 0 0),(4,.pc 3 0),(5,.pc 4 0),(46,.sl 33),(47,.int .i64),(48,.int .i64)],es:=[.cell [.row 1,.int .i64,.row 2],.forow 49,.row 39,.cell [.int .i64,.int .i64,.int .i64,.bool,.bool,.bool,.int .i64,.int .i64,.int .i64,.int .i64,.nils],.cell [.int .i64,.int .i64,.int .i64,.bool,.bool,.bool,.int .i64,.int .i64,.int .i64,.int .i64,.row 5],.row 33]} [(.exit 0,{ts:=[(4,.pc 3 0),(5,.pc 4 0)],es:=[.cell [.row 1,.int .i64,.row 2],.forow 49,.row 39,.cell [.int .i64,.int .i64,.int .i64,.bool,.bool,.bool,.int .i64,.int .i64,.int .i64,.int .i64,.nils],.cell [.int .i64,.int .i64,.int .i64,.bool,.bool,.bool,.int .i64,.int .i64,.int .i64,.int .i64,.row 5],.row 33]})]),(29,.draw [(0,true),(1,true),(2,true),(3,true),(4,false),(5,false),(6,false),(7,true),(8,false)] [])]
noncomputable def F30 (x:I30.ty CC):Option (zk CC O30):=zE ⟨false⟩ [P28] lpO Try.prog Try.f28 1 I30 O30 H30 x
noncomputable def P30:Spec CC:=⟨28,1,I30,O30,F30⟩
theorem K30:Spec.OK Try.prog P30:=zl (zh K28 zB) zr zq H30 (by kernel_rfl) (by kernel_rfl) (by kernel_rfl) fun x=>rfl
def I31:Sig:={ts:=[(0,.val 33)],es:=[]}
def O31:List (XK×Sig):=[(.ret,{ts:=[(0,.val 75)],es:=[]})]
def H31:Nat→Option Hint:=hfind []
noncomputable def F31 (x:I31.ty CC):Option (zk CC O31):=zE ⟨false⟩ [] lpO Try.prog Try.f29 1 I31 O31 H31 x
noncomputable def P31:Spec CC:=⟨29,1,I31,O31,F31⟩
theorem K31:Spec.OK Try.prog P31:=zl zB zr zq H31 (by kernel_rfl) (by kernel_rfl) (by kernel_rfl) fun x=>rfl
def I32:Sig:={ts:=[(0,.val 49)],es:=[]}
def O32:List (XK×Sig):=[(.ret,{ts:=[(0,.agg [.int .i64,.int .i64,.int .i64,.bool,.bool,.bool,.int .i64,.int .i64,.int .i64,.int .i64,.row 0])],es:=[.row 75]})]
def H32:Nat→Option Hint:=hfind [(3,.draw [(0,true),(1,true),(2,true),(3,true),(4,true),(5,true),(6,true),(7,true),(8,true),(9,true),(10,true),(11,true),(12,true),(13,true),(14,false),(15,true),(16,false),(17,false)] []),(8,.loop {ts:=[(2,.pc 0 0),(3,.pc 1 0),(23,.sl 33),(24,.int .i64),(25,.int .i64)],es:=[.cell [.int .i64,.int .i64,.int .i64,.bool,.bool,.bool,.int .i64,.int .i64,.int .i64,.int .i64,.nils],.cell [.int .i64,.int .i64,.int .i64,.bool,.bool,.bool,.int .i64,.int .i64,.int .i64,.int .i64,.row 2],.row 75]} [(.exit 0,{ts:=[(2,.pc 0 0),(3,.pc 1 0)],es:=[.cell [.int .i64,.int .i64,.int .i64,.bool,.bool,.bool,.int .i64,.int .i64,.int .i64,.int .i64,.nils],.cell [.int .i64,.int .i64,.int .i64,.bool,.bool,.bool,.int .i64,.int .i64,.int .i64,.int .i64,.row 2],.row 75]})]),(19,.draw [(0,true),(1,true),(2,true),(3,false),(4,false),(5,false),(6,true),(7,false)] [])]
noncomputable def F32 (x:I32.ty CC):Option (zk CC O32):=zE ⟨false⟩ [P31] lpO Try.prog Try.f31 1 I32 O32 H32 x
noncomputable def P32:Spec CC:=⟨31,1,I32,O32,F32⟩
theorem K32:Spec.OK Try.prog P32:=zl (zh K31 zB) zr zq H32 (by kernel_rfl) (by kernel_rfl) (by kernel_rfl) fun x=>rfl
def I33:Sig:={ts:=[(0,.pc 0 0),(1,.val 80)],es:=[.cell [.row 1,.int .i64,.row 2],.orow 80,.row 55]}
def O33:List (XK×Sig):=[(.ret,{ts:=[(0,.val 75)],es:=[.cell [.row 3,.int .i64,.row 2],.gone,.row 55,.orow 80]})]
def H33:Nat→Option Hint:=hfind [(8,.loop {ts:=[(0,.pc 0 0),(3,.pc 3 0),(4,.pc 4 0),(5,.row 5),(6,.int .i64)],es:=[.cell [.row 1,.int .i64,.row 2],.orow 80,.row 55,.cell [.val 80],.cell [.val 75],.row 75]} [(.exit 0,{ts:=[(0,.pc 0 0),(3,.pc 3 0),(4,.pc 4 0),(5,.row 5)],es:=[.cell [.row 1,.int .i64,.row 2],.orow 80,.row 55,.cell [.val 80],.cell [.val 75],.row 75]})]),(22,.draw [(0,true),(1,true),(2,true),(3,true),(4,true),(5,true),(6,false),(7,false),(8,true),(9,true),(10,false)] [])]
noncomputable def F33 (x:I33.ty CC):Option (zk CC O33):=zE ⟨false⟩ [] lpO Try.prog Try.f30 1 I33 O33 H33 x
noncomputable def P33:Spec CC:=⟨30,1,I33,O33,F33⟩
theorem K33:Spec.OK Try.prog P33:=zl zB zr zq H33 (by kernel_rfl) (by kernel_rfl) (by kernel_rfl) fun x=>rfl
def I34:Sig:={ts:=[(0,.pc 0 0)],es:=[.cell [.row 1,.int .i64,.row 2],.forow 80,.row 55]}
def O34:List (XK×Sig):=[(.ret,{ts:=[(0,.val 75),(1,.int .i64)],es:=[.cell [.row 1,.int .i64,.row 3],.forow 80,.gone,.row 55]})]
def H34:Nat→Option Hint:=hfind [(4,.cut [(.normal,{ts:=[(0,.pc 0 0),(2,.pc 3 0),(17,.bool)],es:=[.cell [.row 1,.int .i64,.row 2],.forow 80,.row 55,.cell [.val 75]]})])]
noncomputable def F34 (x:I34.ty CC):Option (zk CC O34):=zE ⟨false⟩ [] lpO Try.prog Try.f32 2 I34 O34 H34 x
noncomputable def P34:Spec CC:=⟨32,2,I34,O34,F34⟩
theorem K34:Spec.OK Try.prog P34:=zl zB zr zq H34 (by kernel_rfl) (by kernel_rfl) (by kernel_rfl) fun x=>rfl
def I35:Sig:={ts:=[(0,.sl 39)],es:=[]}
def O35:List (XK×Sig):=[(.ret,{ts:=[(0,.row 0)],es:=[.row 55]})]
def H35:Nat→Option Hint:=hfind [(8,.loop {ts:=[(3,.row 0),(6,.sl 39),(7,.int .i64),(8,.int .i64)],es:=[.row 55]} [(.exit 0,{ts:=[(3,.row 0)],es:=[.row 55]})])]
noncomputable def F35 (x:I35.ty CC):Option (zk CC O35):=zE ⟨false⟩ [] lpO Try.prog Try.f34 1 I35 O35 H35 x
noncomputable def P35:Spec CC:=⟨34,1,I35,O35,F35⟩
theorem K35:Spec.OK Try.prog P35:=zl zB zr zq H35 (by kernel_rfl) (by kernel_rfl) (by kernel_rfl) fun x=>rfl
def I36:Sig:={ts:=[(0,.pc 0 0),(1,.sl 55)],es:=[.cell [.row 1,.int .i64,.row 2],.forow 80,.row 55]}
def O36:List (XK×Sig):=[(.ret,{ts:=[(0,.int .i64)],es:=[.cell [.row 1,.int .i64,.row 3],.forow 80,.gone,.row 55]})]
def H36:Nat→Option Hint:=hfind [(14,.loop {ts:=[(0,.pc 0 0),(1,.sl 55),(5,.int .i64)],es:=[.cell [.row 1,.int .i64,.row 3],.forow 80,.gone,.row 55]} [(.exit 0,{ts:=[],es:=[.cell [.row 1,.int .i64,.row 3],.forow 80,.gone,.row 55]})]),(23,.draw [(0,true),(1,true),(2,true),(3,true),(4,true),(5,true),(6,true),(7,true),(8,true),(9,false),(10,false),(11,true),(12,true),(13,false)] [])]
noncomputable def F36 (x:I36.ty CC):Option (zk CC O36):=zE ⟨false⟩ [] lpO Try.prog Try.f33 1 I36 O36 H36 x
noncomputable def P36:Spec CC:=⟨33,1,I36,O36,F36⟩
theorem K36:Spec.OK Try.prog P36:=zl zB zr zq H36 (by kernel_rfl) (by kernel_rfl) (by kernel_rfl) fun x=>rfl
def I37:Sig:={ts:=[(0,.pc 0 0),(1,.val 33),(2,.int .i64)],es:=[.cell [.row 1,.int .i64,.row 2],.forow 49,.row 39]}
def O37:List (XK×Sig):=[(.ret,{ts:=[(0,.val 33),(1,.int .i64)],es:=[.cell [.row 1,.int .i64,.row 3],.forow 49,.gone,.row 39]})]
def H37:Nat→Option Hint:=hfind [(6,.cut [(.ret,{ts:=[(6,.pc 3 0),(7,.int .i64)],es:=[.cell [.row 1,.int .i64,.row 2],.forow 49,.row 39,.cell [.val 33]]}),(.normal,{ts:=[(0,.pc 0 0),(2,.int .i64),(4,.pc 3 0),(6,.pc 4 0)],es:=[.cell [.row 1,.int .i64,.row 2],.forow 49,.row 39,.cell [.val 33],.cell [.val 33]]})]),(12,.cut [(.ret,{ts:=[(6,.pc 3 0),(7,.int .i64)],es:=[.cell [.row 1,.int .i64,.row 2],.forow 49,.row 39,.cell [.val 33]]}),(.normal,{ts:=[(0,.pc 0 0),(2,.int .i64),(4,.pc 3 0),(6,.pc 4 0)],es:=[.cell [.row 1,.int .i64,.row 2],.forow 49,.row 39,.cell [.val 33],.cell [.val 33]]})]),(27,.cut [(.normal,{ts:=[(0,.pc 0 0),(4,.pc 3 0),(6,.pc 4 0),(34,.bool)],es:=[.cell [.row 1,.int .i64,.row 2],.forow 49,.row 39,.cell [.val 33],.cell [.val 33]]})])]
noncomputable def F37 (x:I37.ty CC):Option (zk CC O37):=zE ⟨false⟩ [P18] lpO Try.prog Try.f35 2 I37 O37 H37 x
noncomputable def P37:Spec CC:=⟨35,2,I37,O37,F37⟩
theorem K37:Spec.OK Try.prog P37:=zl (zh K18 zB) zr zq H37 (by kernel_rfl) (by kernel_rfl) (by kernel_rfl) fun x=>rfl
def I38:Sig:={ts:=[(0,.pc 0 0),(1,.val 75),(2,.int .i64)],es:=[.cell [.row 1,.int .i64,.row 2],.forow 80,.row 55]}
def O38:List (XK×Sig):=[(.ret,{ts:=[(0,.val 75),(1,.int .i64)],es:=[.cell [.row 1,.int .i64,.row 3],.forow 80,.gone,.row 55]})]
def H38:Nat→Option Hint:=hfind [(30,.cut [(.normal,{ts:=[(0,.pc 0 0),(4,.pc 3 0),(6,.pc 4 0),(31,.bool)],es:=[.cell [.row 1,.int .i64,.row 2],.forow 80,.row 55,.cell [.val 75],.cell [.val 75]]})])]
noncomputable def F38 (x:I38.ty CC):Option (zk CC O38):=zE ⟨false⟩ [P34] lpO Try.prog Try.f36 2 I38 O38 H38 x
noncomputable def P38:Spec CC:=⟨36,2,I38,O38,F38⟩
theorem K38:Spec.OK Try.prog P38:=zl (zh K34 zB) zr zq H38 (by kernel_rfl) (by kernel_rfl) (by kernel_rfl) fun x=>rfl
def I39:Sig:={ts:=[(0,.val 75),(1,.int .i64)],es:=[]}
def O39:List (XK×Sig):=[(.ret,{ts:=[(0,.int .i64)],es:=[]})]
def H39:Nat→Option Hint:=hfind []
noncomputable def F39 (x:I39.ty CC):Option (zk CC O39):=zE ⟨false⟩ [] lpO Try.prog Try.f57 1 I39 O39 H39 x
noncomputable def P39:Spec CC:=⟨57,1,I39,O39,F39⟩
theorem K39:Spec.OK Try.prog P39:=zl zB zr zq H39 (by kernel_rfl) (by kernel_rfl) (by kernel_rfl) fun x=>rfl
def I40:Sig:={ts:=[(0,.pc 0 0),(1,.val 75)],es:=[.cell [.row 1,.int .i64,.row 2],.forow 80,.row 55]}
def O40:List (XK×Sig):=[(.ret,{ts:=[(0,.int .i64)],es:=[.cell [.row 1,.int .i64,.row 2],.forow 80,.row 55]})]
def H40:Nat→Option Hint:=hfind [(14,.draw [(0,true),(1,true),(2,true),(3,true),(4,true),(5,true),(6,true),(7,true),(8,true),(9,true),(10,true),(11,true),(12,true)] [(.normal,{ts:=[(0,.pc 0 0),(3,.pc 3 0),(23,.bool)],es:=[.cell [.row 1,.int .i64,.row 2],.forow 80,.row 55,.cell [.val 75]]})]),(22,.draw [(0,true),(1,true),(2,true),(3,true),(4,true),(5,true),(6,true),(7,true),(8,true),(9,true)] [])]
noncomputable def F40 (x:I40.ty CC):Option (zk CC O40):=zE ⟨false⟩ [P39] lpO Try.prog Try.f59 1 I40 O40 H40 x
noncomputable def P40:Spec CC:=⟨59,1,I40,O40,F40⟩
theorem K40:Spec.OK Try.prog P40:=zl (zh K39 zB) zr zq H40 (by kernel_rfl) (by kernel_rfl) (by kernel_rfl) fun x=>rfl
def I41:Sig:={ts:=[(0,.int .i64),(1,.sl 55)],es:=[]}
def O41:List (XK×Sig):=[(.ret,{ts:=[(0,.row 0),(1,.bool)],es:=[.row 2]})]
def H41:Nat→Option Hint:=hfind [(8,.loop {ts:=[(0,.int .i64),(1,.sl 55),(6,.row 0),(7,.int .i64)],es:=[.row 2]} [(.exit 0,{ts:=[(0,.int .i64),(1,.sl 55),(6,.row 0)],es:=[.row 2]})]),(21,.cut [(.normal,{ts:=[(0,.int .i64),(1,.sl 55),(6,.row 0),(7,.int .i64)],es:=[.row 2]})]),(29,.loop {ts:=[(0,.int .i64),(1,.sl 55),(6,.row 0),(8,.int .i64)],es:=[.row 2]} [(.exit 2,{ts:=[(0,.int .i64),(6,.row 0)],es:=[.row 2]})]),(39,.draw [(0,true),(1,true),(2,true),(3,true),(4,true),(5,true),(6,true),(7,true),(8,true),(9,true),(10,true),(11,true),(12,true),(13,true)] []),(41,.draw [(0,true),(1,true),(2,true),(3,true),(4,true),(5,true),(6,true),(7,true),(8,true),(9,true)] []),(42,.cut [(.normal,{ts:=[(0,.int .i64),(1,.sl 55),(6,.row 0),(8,.int .i64)],es:=[.row 2]})]),(50,.loop {ts:=[(0,.int .i64),(6,.row 0),(10,.int .i64)],es:=[.row 2]} [(.ret,{ts:=[(4,.nils),(5,.bool)],es:=[]}),(.exit 4,{ts:=[(6,.row 0)],es:=[.row 2]})]),(62,.loop {ts:=[(0,.int .i64),(6,.row 0),(10,.int .i64),(11,.int .i64)],es:=[.row 2]} [(.ret,{ts:=[(4,.nils),(5,.bool)],es:=[]}),(.exit 6,{ts:=[(0,.int .i64),(6,.row 0),(10,.int .i64)],es:=[.row 2]})]),(70,.cut [(.normal,{ts:=[(0,.int .i64),(6,.row 0),(10,.int .i64),(11,.int .i64)],es:=[.row 2]}),(.ret,{ts:=[(4,.nils),(5,.bool)],es:=[]})]),(81,.loop {ts:=[(0,.int .i64),(6,.row 0),(10,.int .i64),(11,.int .i64),(12,.int .i64)],es:=[.row 2]} [(.exit 8,{ts:=[(0,.int .i64),(6,.row 0),(10,.int .i64),(11,.int .i64)],es:=[.row 2]})]),(89,.cut [(.normal,{ts:=[(0,.int .i64),(6,.row 0),(10,.int .i64),(11,.int .i64),(12,.int .i64)],es:=[.row 2]})]),(97,.draw [(0,true),(1,true),(2,true),(3,true),(4,true),(5,true),(6,true),(7,true),(8,true),(9,true),(10,true),(11,true),(12,true),(13,true),(14,true),(15,true),(16,true),(17,true)] []),(100,.cut [(.normal,{ts:=[(0,.int .i64),(6,.row 0),(10,.int .i64),(11,.int .i64),(12,.int .i64)],es:=[.row 2]})])]
noncomputable def F41 (x:I41.ty CC):Option (zk CC O41):=zE ⟨false⟩ [] lpO Try.prog Try.f66 2 I41 O41 H41 x
noncomputable def P41:Spec CC:=⟨66,2,I41,O41,F41⟩
theorem K41:Spec.OK Try.prog P41:=zl zB zr zq H41 (by kernel_rfl) (by kernel_rfl) (by kernel_rfl) fun x=>rfl
def I42:Sig:={ts:=[(0,.int .i64),(1,.val 55),(2,.sl 55)],es:=[]}
def O42:List (XK×Sig):=[(.ret,{ts:=[(0,.bool)],es:=[]})]
def H42:Nat→Option Hint:=hfind [(13,.draw [(0,true),(1,true),(2,true),(3,true),(4,true),(5,true),(6,true),(7,true),(8,true),(9,true),(10,true),(11,true),(12,true),(13,true)] [])]
noncomputable def F42 (x:I42.ty CC):Option (zk CC O42):=zE ⟨false⟩ [P41] lpO Try.prog Try.f46 1 I42 O42 H42 x
noncomputable def P42:Spec CC:=⟨46,1,I42,O42,F42⟩
theorem K42:Spec.OK Try.prog P42:=zl (zh K41 zB) zr zq H42 (by kernel_rfl) (by kernel_rfl) (by kernel_rfl) fun x=>rfl
def I43:Sig:={ts:=[(0,.pc 0 0),(1,.val 55)],es:=[.cell [.row 1,.int .i64,.row 2],.forow 80,.row 55]}
def O43:List (XK×Sig):=[(.ret,{ts:=[(0,.bool)],es:=[.cell [.row 1,.int .i64,.row 2],.forow 80,.row 55]})]
def H43:Nat→Option Hint:=hfind [(4,.cut [(.normal,{ts:=[(0,.pc 0 0),(3,.pc 3 0),(20,.bool)],es:=[.cell [.row 1,.int .i64,.row 2],.forow 80,.row 55,.cell [.val 55]]})]),(11,.draw [(0,true),(1,true),(2,true),(3,true),(4,true),(5,true),(6,true),(7,true),(8,true),(9,false),(10,true)] [])]
noncomputable def F43 (x:I43.ty CC):Option (zk CC O43):=zE ⟨false⟩ [P42] lpO Try.prog Try.f16 1 I43 O43 H43 x
noncomputable def P43:Spec CC:=⟨16,1,I43,O43,F43⟩
theorem K43:Spec.OK Try.prog P43:=zl (zh K42 zB) zr zq H43 (by kernel_rfl) (by kernel_rfl) (by kernel_rfl) fun x=>rfl
def I44:Sig:={ts:=[(0,.pc 0 0),(1,.val 75),(2,.val 75),(3,.bool)],es:=[.cell [.row 1,.int .i64,.row 2],.forow 80,.row 55]}
def O44:List (XK×Sig):=[(.ret,{ts:=[(0,.int .i64)],es:=[.cell [.row 1,.int .i64,.row 2],.forow 80,.row 55]})]
def H44:Nat→Option Hint:=hfind [(33,.draw [(0,true),(1,true),(2,true),(3,true),(4,true),(5,true),(6,true),(7,true),(8,false),(9,false)] []),(36,.cut [(.normal,{ts:=[(0,.pc 0 0),(6,.pc 3 0),(10,.pc 4 0),(47,.bool)],es:=[.cell [.row 1,.int .i64,.row 2],.forow 80,.row 55,.cell [.val 75],.cell [.int .i64,.int .i64,.int .i64,.bool,.bool,.bool,.int .i64,.int .i64,.int .i64,.int .i64,.nx 1 80]]})]),(44,.cut [(.normal,{ts:=[(0,.pc 0 0),(6,.pc 3 0),(10,.pc 4 0),(55,.bool)],es:=[.cell [.row 1,.int .i64,.row 2],.forow 80,.row 55,.cell [.val 75],.cell [.int .i64,.int .i64,.int .i64,.bool,.bool,.bool,.int .i64,.int .i64,.int .i64,.int .i64,.nx 1 80]]})]),(53,.cut [(.ret,{ts:=[(8,.int .i64)],es:=[.cell [.row 1,.int .i64,.row 2],.forow 80,.row 55]}),(.normal,{ts:=[(6,.pc 3 0),(10,.pc 4 0)],es:=[.cell [.row 1,.int .i64,.row 2],.forow 80,.row 55,.cell [.val 75],.cell [.int .i64,.int .i64,.int .i64,.bool,.bool,.bool,.int .i64,.int .i64,.int .i64,.int .i64,.nx 1 80]]})]),(60,.cut [(.normal,{ts:=[(85,.bool)],es:=[.cell [.row 1,.int .i64,.row 2],.forow 80,.row 55]})]),(72,.cut [(.normal,{ts:=[(6,.pc 3 0),(10,.pc 4 0),(101,.bool)],es:=[.cell [.row 1,.int .i64,.row 2],.forow 80,.row 55,.cell [.val 75],.cell [.int .i64,.int .i64,.int .i64,.bool,.bool,.bool,.int .i64,.int .i64,.int .i64,.int .i64,.nx 1 80]]})]),(80,.cut [(.normal,{ts:=[(111,.bool)],es:=[.cell [.row 1,.int .i64,.row 2],.forow 80,.row 55]})])]
noncomputable def F44 (x:I44.ty CC):Option (zk CC O44):=zE ⟨false⟩ [P39,P40,P43] lpO Try.prog Try.f55 1 I44 O44 H44 x
noncomputable def P44:Spec CC:=⟨55,1,I44,O44,F44⟩
theorem K44:Spec.OK Try.prog P44:=zl (zh K39 (zh K40 (zh K43 zB))) zr zq H44 (by kernel_rfl) (by kernel_rfl) (by kernel_rfl) fun x=>rfl
def I45:Sig:={ts:=[(0,.pc 0 0),(1,.val 75),(2,.val 75)],es:=[.cell [.row 1,.int .i64,.row 2],.forow 80,.row 55]}
def O45:List (XK×Sig):=[(.ret,{ts:=[(0,.val 75),(1,.int .i64)],es:=[.cell [.row 1,.int .i64,.row 3],.forow 80,.gone,.row 55]})]
def H45:Nat→Option Hint:=hfind [(13,.draw [(0,true),(1,true),(2,true),(3,true),(4,true),(5,true),(6,true),(7,true),(8,false),(9,false)] [])]
noncomputable def F45 (x:I45.ty CC):Option (zk CC O45):=zE ⟨false⟩ [P44,P34] lpO Try.prog Try.f37 2 I45 O45 H45 x
noncomputable def P45:Spec CC:=⟨37,2,I45,O45,F45⟩
theorem K45:Spec.OK Try.prog P45:=zl (zh K44 (zh K34 zB)) zr zq H45 (by kernel_rfl) (by kernel_rfl) (by kernel_rfl) fun x=>rfl
def I46:Sig:={ts:=[(0,.pc 0 0),(1,.val 33),(2,.val 33),(3,.val 33)],es:=[.cell [.row 1,.int .i64,.row 2],.orow 49,.row 39]}
def O46:List (XK×Sig):=[(.ret,{ts:=[(0,.int .i64)],es:=[.cell [.row 1,.int .i64,.row 2],.orow 49,.row 39]})]
def H46:Nat→Option Hint:=hfind [(3,.cut [(.normal,{ts:=[(6,.pc 3 0),(7,.pc 4 0),(9,.pnil),(10,.int .i64)],es:=[.cell [.row 1,.int .i64,.row 2],.orow 49,.row 39,.cell [.val 33],.cell [.val 33]]}),(.normal,{ts:=[(6,.pc 3 0),(7,.pc 4 0),(9,.pr 1 49 0),(10,.int .i64)],es:=[.cell [.row 1,.int .i64,.row 2],.orow 49,.row 39,.cell [.val 33],.cell [.val 33]]})]),(8,.cut [(.ret,{ts:=[(8,.int .i64)],es:=[.cell [.row 1,.int .i64,.row 2],.orow 49,.row 39]}),(.normal,{ts:=[(6,.pc 3 0),(7,.pc 4 0),(9,.pr 1 49 0)],es:=[.cell [.row 1,.int .i64,.row 2],.orow 49,.row 39,.cell [.val 33],.cell [.val 33]]})]),(14,.cut [(.ret,{ts:=[(8,.int .i64)],es:=[.cell [.row 1,.int .i64,.row 2],.orow 49,.row 39]}),(.normal,{ts:=[(6,.pc 3 0),(7,.pc 4 0),(9,.pr 1 49 0)],es:=[.cell [.row 1,.int .i64,.row 2],.orow 49,.row 39,.cell [.val 33],.cell [.val 33]]})]),(26,.draw [(0,true),(1,true),(2,true),(3,true),(4,true),(5,true),(6,true),(7,true),(8,false)] [])]
noncomputable def F46 (x:I46.ty CC):Option (zk CC O46):=zE ⟨false⟩ [P15,P4] lpO Try.prog Try.f38 1 I46 O46 H46 x
noncomputable def P46:Spec CC:=⟨38,1,I46,O46,F46⟩
theorem K46:Spec.OK Try.prog P46:=zl (zh K15 (zh K4 zB)) zr zq H46 (by kernel_rfl) (by kernel_rfl) (by kernel_rfl) fun x=>rfl
def I47:Sig:={ts:=[(0,.pc 0 0),(1,.val 75),(2,.val 75),(3,.val 75)],es:=[.cell [.row 1,.int .i64,.row 2],.orow 80,.row 55]}
def O47:List (XK×Sig):=[(.ret,{ts:=[(0,.int .i64)],es:=[.cell [.row 1,.int .i64,.row 2],.orow 80,.row 55]})]
def H47:Nat→Option Hint:=hfind [(22,.draw [(0,true),(1,true),(2,true),(3,true),(4,true),(5,true),(6,true),(7,true),(8,true)] []),(29,.draw [(0,true),(1,true),(2,true),(3,true),(4,true),(5,true),(6,true),(7,true),(8,true),(9,true),(10,true),(11,true),(12,true),(13,false)] [])]
noncomputable def F47 (x:I47.ty CC):Option (zk CC O47):=zE ⟨false⟩ [P44,P39] lpO Try.prog Try.f39 1 I47 O47 H47 x
noncomputable def P47:Spec CC:=⟨39,1,I47,O47,F47⟩
theorem K47:Spec.OK Try.prog P47:=zl (zh K44 (zh K39 zB)) zr zq H47 (by kernel_rfl) (by kernel_rfl) (by kernel_rfl) fun x=>rfl
def I48:Sig:={ts:=[(0,.pc 0 0),(1,.val 33)],es:=[.cell [.row 1,.int .i64,.row 2],.forow 49,.row 39]}
def O48:List (XK×Sig):=[(.ret,{ts:=[(0,.int .i64)],es:=[.cell [.row 1,.int .i64,.row 2],.forow 49,.row 39]})]
def H48:Nat→Option Hint:=hfind [(3,.cut [(.normal,{ts:=[(5,.pnil),(6,.int .i64)],es:=[.cell [.row 1,.int .i64,.row 2],.forow 49,.row 39]}),(.normal,{ts:=[(5,.pr 1 49 0),(6,.int .i64)],es:=[.cell [.row 1,.int .i64,.row 2],.forow 49,.row 39]})]),(19,.cut [(.normal,{ts:=[(5,.pr 1 49 0),(19,.int .i64),(20,.bool)],es:=[.cell [.row 1,.int .i64,.row 2],.forow 49,.row 39]})]),(22,.cut [(.ret,{ts:=[(4,.int .i64)],es:=[.cell [.row 1,.int .i64,.row 2],.forow 49,.row 39]}),(.normal,{ts:=[(5,.pr 1 49 0)],es:=[.cell [.row 1,.int .i64,.row 2],.forow 49,.row 39]})]),(29,.cut [(.normal,{ts:=[(5,.pr 1 49 0),(23,.bool)],es:=[.cell [.row 1,.int .i64,.row 2],.forow 49,.row 39]})]),(33,.cut [(.normal,{ts:=[(5,.pr 1 49 0),(23,.bool)],es:=[.cell [.row 1,.int .i64,.row 2],.forow 49,.row 39]})])]
noncomputable def F48 (x:I48.ty CC):Option (zk CC O48):=zE ⟨false⟩ [P5] lpO Try.prog Try.f40 1 I48 O48 H48 x
noncomputable def P48:Spec CC:=⟨40,1,I48,O48,F48⟩
theorem K48:Spec.OK Try.prog P48:=zl (zh K5 zB) zr zq H48 (by kernel_rfl) (by kernel_rfl) (by kernel_rfl) fun x=>rfl
def I49:Sig:={ts:=[(0,.pc 0 0),(1,.val 75)],es:=[.cell [.row 1,.int .i64,.row 2],.forow 80,.row 55]}
def O49:List (XK×Sig):=[(.ret,{ts:=[(0,.int .i64)],es:=[.cell [.row 1,.int .i64,.row 2],.forow 80,.row 55]})]
def H49:Nat→Option Hint:=hfind [(13,.draw [(0,true),(1,true),(2,true),(3,true),(4,true),(5,true),(6,true),(7,true),(8,true),(9,true)] []),(16,.cut [(.normal,{ts:=[(0,.pc 0 0),(3,.pc 3 0),(6,.int .i64),(27,.bool)],es:=[.cell [.row 1,.int .i64,.row 2],.forow 80,.row 55,.cell [.val 75]]})]),(24,.cut [(.normal,{ts:=[(0,.pc 0 0),(3,.pc 3 0),(37,.bool)],es:=[.cell [.row 1,.int .i64,.row 2],.forow 80,.row 55,.cell [.val 75]]})]),(31,.draw [(0,true),(1,true),(2,true),(3,true),(4,true),(5,true),(6,true),(7,true),(8,false)] [])]
noncomputable def F49 (x:I49.ty CC):Option (zk CC O49):=zE ⟨false⟩ [P40] lpO Try.prog Try.f41 1 I49 O49 H49 x
noncomputable def P49:Spec CC:=⟨41,1,I49,O49,F49⟩
theorem K49:Spec.OK Try.prog P49:=zl (zh K40 zB) zr zq H49 (by kernel_rfl) (by kernel_rfl) (by kernel_rfl) fun x=>rfl
def I50:Sig:={ts:=[(0,.pc 0 0),(1,.val 75),(2,.int .i64),(3,.bool)],es:=[.cell [.row 1,.int .i64,.row 2],.forow 80,.row 55]}
def O50:List (XK×Sig):=[(.ret,{ts:=[(0,.int .i64)],es:=[.cell [.row 1,.int .i64,.row 2],.forow 80,.row 55]})]
def H50:Nat→Option Hint:=hfind [(13,.draw [(0,true),(1,true),(2,true),(3,true),(4,true),(5,true),(6,true),(7,true),(8,false),(9,false)] []),(16,.cut [(.normal,{ts:=[(2,.int .i64),(10,.pc 3 0),(33,.bool)],es:=[.cell [.row 1,.int .i64,.row 2],.forow 80,.row 55,.cell [.int .i64,.int .i64,.int .i64,.bool,.bool,.bool,.int .i64,.int .i64,.int .i64,.int .i64,.nx 1 80]]})])]
noncomputable def F50 (x:I50.ty CC):Option (zk CC O50):=zE ⟨false⟩ [P40] lpO Try.prog Try.f60 1 I50 O50 H50 x
noncomputable def P50:Spec CC:=⟨60,1,I50,O50,F50⟩
theorem K50:Spec.OK Try.prog P50:=zl (zh K40 zB) zr zq H50 (by kernel_rfl) (by kernel_rfl) (by kernel_rfl) fun x=>rfl
def I51:Sig:={ts:=[(0,.pz 46 0)],es:=[]}
def O51:List (XK×Sig):=[(.ret,{ts:=[(0,.pc 0 0)],es:=[.cell [.row 1,.int .i64,.row 2],.orow 80,.row 55]})]
def H51:Nat→Option Hint:=hfind [(8,.loop {ts:=[(0,.pz 46 0),(3,.pc 0 0),(4,.int .i64)],es:=[.cell [.nils,.int .i64,.row 1],.row 55]} [(.exit 0,{ts:=[(0,.pz 46 0),(3,.pc 0 0)],es:=[.cell [.nils,.int .i64,.row 1],.row 55]})]),(17,.draw [(0,true),(1,true),(2,true),(3,true),(4,true),(5,true),(6,true),(7,true),(8,true),(9,true),(10,true),(11,true),(12,false),(13,false),(14,true),(15,true),(16,false)] []),(23,.loop {ts:=[(0,.pz 46 0),(3,.pc 0 0),(5,.int .i64)],es:=[.cell [.row 1,.int .i64,.row 2],.orow 80,.row 55]} [(.exit 2,{ts:=[(3,.pc 0 0)],es:=[.cell [.row 1,.int .i64,.row 2],.orow 80,.row 55]})]),(40,.loop {ts:=[(0,.pz 46 0),(3,.pc 0 0),(5,.int .i64),(6,.pc 1 0),(7,.row 2),(8,.int .i64)],es:=[.cell [.row 3,.int .i64,.row 4],.cell [.val 80],.row 75,.orow 80,.row 55]} [(.exit 4,{ts:=[(0,.pz 46 0),(3,.pc 0 0),(5,.int .i64),(6,.pc 1 0),(7,.row 2)],es:=[.cell [.row 3,.int .i64,.row 4],.cell [.val 80],.row 75,.orow 80,.row 55]})]),(53,.draw [(0,true),(1,true),(2,true),(3,true),(4,true),(5,true),(6,false),(7,false),(8,true),(9,true),(10,false)] [])]
noncomputable def F51 (x:I51.ty CC):Option (zk CC O51):=zE ⟨false⟩ [] lpO Try.prog Try.f18 1 I51 O51 H51 x
noncomputable def P51:Spec CC:=⟨18,1,I51,O51,F51⟩
theorem K51:Spec.OK Try.prog P51:=zl zB zr zq H51 (by kernel_rfl) (by kernel_rfl) (by kernel_rfl) fun x=>rfl
def I52:Sig:={ts:=[(0,.int .i64),(1,.sl 75)],es:=[]}
def O52:List (XK×Sig):=[(.ret,{ts:=[(0,.int .i64),(1,.int .i64)],es:=[]})]
def H52:Nat→Option Hint:=hfind [(19,.draw [(0,true),(1,true),(2,true),(3,true),(4,true),(5,true),(6,true),(7,true),(8,true),(9,true),(10,true),(11,true),(12,true),(13,true)] [])]
noncomputable def F52 (x:I52.ty CC):Option (zk CC O52):=zE ⟨false⟩ [] lpO Try.prog Try.f68 2 I52 O52 H52 x
noncomputable def P52:Spec CC:=⟨68,2,I52,O52,F52⟩
theorem K52:Spec.OK Try.prog P52:=zl zB zr zq H52 (by kernel_rfl) (by kernel_rfl) (by kernel_rfl) fun x=>rfl
def I53:Sig:={ts:=[(0,.sl 55),(1,.sl 75)],es:=[]}
def O53:List (XK×Sig):=[(.ret,{ts:=[(0,.row 0)],es:=[.row 55]})]
def H53:Nat→Option Hint:=hfind [(8,.loop {ts:=[(0,.sl 55),(1,.sl 75),(5,.row 0),(6,.int .i64)],es:=[.row 55]} [(.exit 0,{ts:=[(5,.row 0)],es:=[.row 55]})])]
noncomputable def F53 (x:I53.ty CC):Option (zk CC O53):=zE ⟨false⟩ [P52] lpO Try.prog Try.f61 1 I53 O53 H53 x
noncomputable def P53:Spec CC:=⟨61,1,I53,O53,F53⟩
theorem K53:Spec.OK Try.prog P53:=zl (zh K52 zB) zr zq H53 (by kernel_rfl) (by kernel_rfl) (by kernel_rfl) fun x=>rfl
def I54:Sig:={ts:=[(0,.pc 0 0),(1,.val 75),(2,.int .i64),(3,.sl 55)],es:=[.cell [.row 1,.int .i64,.row 2],.forow 80,.row 55]}
def O54:List (XK×Sig):=[(.ret,{ts:=[(0,.int .i64)],es:=[.cell [.row 1,.int .i64,.row 2],.forow 80,.row 55]}),(.ret,{ts:=[(0,.int .i64)],es:=[.cell [.row 3,.int .i64,.row 4],.forow 80,.row 55,.orow 80,.row 55]})]
def H54:Nat→Option Hint:=hfind [(15,.draw [(0,true),(1,true),(2,true),(3,true),(4,true),(5,true),(6,true),(7,true),(8,false),(9,false)] []),(20,.loop {ts:=[(0,.pc 0 0),(3,.sl 55),(5,.pc 3 0),(10,.pc 4 0),(11,.pc 5 0),(12,.int .i64)],es:=[.cell [.row 1,.int .i64,.row 2],.forow 80,.row 55,.cell [.val 75],.cell [.row 6,.int .i64,.row 7],.cell [.int .i64,.int .i64,.int .i64,.bool,.bool,.bool,.int .i64,.int .i64,.int .i64,.int .i64,.nx 6 80],.orow 80,.row 55]} [(.ret,{ts:=[(8,.int .i64)],es:=[.cell [.row 1,.int .i64,.row 2],.forow 80,.row 55]}),(.exit 0,{ts:=[(0,.pc 0 0),(3,.sl 55),(5,.pc 3 0),(10,.pc 4 0),(11,.pc 5 0)],es:=[.cell [.row 1,.int .i64,.row 2],.forow 80,.row 55,.cell [.val 75],.cell [.row 6,.int .i64,.row 7],.cell [.int .i64,.int .i64,.int .i64,.bool,.bool,.bool,.int .i64,.int .i64,.int .i64,.int .i64,.nx 6 80],.orow 80,.row 55]})]),(28,.cut [(.normal,{ts:=[(0,.pc 0 0),(3,.sl 55),(5,.pc 3 0),(10,.pc 4 0),(11,.pc 5 0),(12,.int .i64)],es:=[.cell [.row 1,.int .i64,.row 2],.forow 80,.row 55,.cell [.val 75],.cell [.row 6,.int .i64,.row 7],.cell [.int .i64,.int .i64,.int .i64,.bool,.bool,.bool,.int .i64,.int .i64,.int .i64,.int .i64,.nx 6 80],.orow 80,.row 55]}),(.ret,{ts:=[(8,.int .i64)],es:=[.cell [.row 1,.int .i64,.row 2],.forow 80,.row 55]})]),(60,.draw [(0,true),(1,true),(2,true),(3,true),(4,true),(5,true),(6,true),(7,true),(8,false)] [])]
noncomputable def F54 (x:I54.ty CC):Option (zk CC O54):=zE ⟨false⟩ [P50,P51,P34,P53,P36] lpO Try.prog Try.f42 1 I54 O54 H54 x
noncomputable def P54:Spec CC:=⟨42,1,I54,O54,F54⟩
theorem K54:Spec.OK Try.prog P54:=zl (zh K50 (zh K51 (zh K34 (zh K53 (zh K36 zB))))) zr zq H54 (by kernel_rfl) (by kernel_rfl) (by kernel_rfl) fun x=>rfl
def I55:Sig:={ts:=[(0,.val 39),(1,.pc 0 0)],es:=[.cell [.pc 1 0],.cell [.row 2,.int .i64,.row 3],.forow 49,.row 39]}
def O55:List (XK×Sig):=[(.ret,{ts:=[(0,.bool)],es:=[.cell [.pc 1 0],.cell [.row 2,.int .i64,.row 3],.forow 49,.row 39]})]
def H55:Nat→Option Hint:=hfind []
noncomputable def F55 (x:I55.ty CC):Option (zk CC O55):=zE ⟨false⟩ [P13] lpO Try.prog Try.f63 1 I55 O55 H55 x
noncomputable def P55:Spec CC:=⟨63,1,I55,O55,F55⟩
theorem K55:Spec.OK Try.prog P55:=zl (zh K13 zB) zr zq H55 (by kernel_rfl) (by kernel_rfl) (by kernel_rfl) fun x=>rfl
def I56:Sig:={ts:=[(0,.sl 39),(1,.clo 63 [.pc 0 0])],es:=[.cell [.pc 1 0],.cell [.row 2,.int .i64,.row 3],.forow 49,.row 39]}
def O56:List (XK×Sig):=[(.ret,{ts:=[(0,.int .i64)],es:=[.cell [.pc 1 0],.cell [.row 2,.int .i64,.row 3],.forow 49,.row 39]})]
def H56:Nat→Option Hint:=hfind [(6,.loop {ts:=[(0,.sl 39),(1,.clo 63 [.pc 0 0]),(7,.int .i64),(8,.int .i64)],es:=[.cell [.pc 1 0],.cell [.row 2,.int .i64,.row 3],.forow 49,.row 39]} [(.ret,{ts:=[(4,.int .i64)],es:=[.cell [.pc 1 0],.cell [.row 2,.int .i64,.row 3],.forow 49,.row 39]}),(.exit 0,{ts:=[],es:=[.cell [.pc 1 0],.cell [.row 2,.int .i64,.row 3],.forow 49,.row 39]})])]
noncomputable def F56 (x:I56.ty CC):Option (zk CC O56):=zE ⟨false⟩ [P55] lpO Try.prog Try.f69 1 I56 O56 H56 x
noncomputable def P56:Spec CC:=⟨69,1,I56,O56,F56⟩
theorem K56:Spec.OK Try.prog P56:=zl (zh K55 zB) zr zq H56 (by kernel_rfl) (by kernel_rfl) (by kernel_rfl) fun x=>rfl
def I57:Sig:={ts:=[(0,.sl 39),(1,.clo 63 [.pc 0 0])],es:=[.cell [.pc 1 0],.cell [.row 2,.int .i64,.row 3],.forow 49,.row 39]}
def O57:List (XK×Sig):=[(.ret,{ts:=[(0,.bool)],es:=[.cell [.pc 1 0],.cell [.row 2,.int .i64,.row 3],.forow 49,.row 39]})]
def H57:Nat→Option Hint:=hfind []
noncomputable def F57 (x:I57.ty CC):Option (zk CC O57):=zE ⟨false⟩ [P56] lpO Try.prog Try.f62 1 I57 O57 H57 x
noncomputable def P57:Spec CC:=⟨62,1,I57,O57,F57⟩
theorem K57:Spec.OK Try.prog P57:=zl (zh K56 zB) zr zq H57 (by kernel_rfl) (by kernel_rfl) (by kernel_rfl) fun x=>rfl
def I58:Sig:={ts:=[(0,.pc 0 0),(1,.val 33),(2,.int .i64),(3,.sl 39)],es:=[.cell [.row 1,.int .i64,.row 2],.orow 49,.row 39]}
def O58:List (XK×Sig):=[(.ret,{ts:=[(0,.int .i64)],es:=[.cell [.row 1,.int .i64,.row 2],.orow 49,.row 39]})]
def H58:Nat→Option Hint:=hfind [(3,.cut [(.normal,{ts:=[(3,.sl 39),(4,.pc 3 0),(9,.pnil),(10,.int .i64)],es:=[.cell [.row 1,.int .i64,.row 2],.orow 49,.row 39,.cell [.pc 0 0]]}),(.normal,{ts:=[(3,.sl 39),(4,.pc 3 0),(9,.pr 1 49 0),(10,.int .i64)],es:=[.cell [.row 1,.int .i64,.row 2],.orow 49,.row 39,.cell [.pc 0 0]]})]),(16,.loop {ts:=[(3,.sl 39),(4,.pc 3 0),(9,.pr 1 49 0),(26,.nx 1 49),(27,.int .i64),(28,.int .i64)],es:=[.cell [.row 1,.int .i64,.row 2],.orow 49,.row 39,.cell [.pc 0 0]]} [(.ret,{ts:=[(8,.int .i64)],es:=[.cell [.row 1,.int .i64,.row 2],.orow 49,.row 39]}),(.exit 0,{ts:=[(3,.sl 39),(4,.pc 3 0),(9,.pr 1 49 0)],es:=[.cell [.row 1,.int .i64,.row 2],.orow 49,.row 39,.cell [.pc 0 0]]})]),(28,.cut [(.normal,{ts:=[(3,.sl 39),(4,.pc 3 0),(9,.pr 1 49 0),(26,.nx 1 49),(27,.int .i64),(28,.int .i64),(43,.bool)],es:=[.cell [.row 1,.int .i64,.row 2],.orow 49,.row 39,.cell [.pc 0 0]]})])]
noncomputable def F58 (x:I58.ty CC):Option (zk CC O58):=zE ⟨false⟩ [P20,P24,P57] lpO Try.prog Try.f43 1 I58 O58 H58 x
noncomputable def P58:Spec CC:=⟨43,1,I58,O58,F58⟩
theorem K58:Spec.OK Try.prog P58:=zl (zh K20 (zh K24 (zh K57 zB))) zr zq H58 (by kernel_rfl) (by kernel_rfl) (by kernel_rfl) fun x=>rfl
def I59:Sig:={ts:=[(0,.pc 0 0),(1,.val 75),(2,.int .i64),(3,.sl 55)],es:=[.cell [.row 1,.int .i64,.row 2],.orow 80,.row 55]}
def O59:List (XK×Sig):=[(.ret,{ts:=[(0,.int .i64)],es:=[.cell [.row 1,.int .i64,.row 2],.orow 80,.row 55]})]
def H59:Nat→Option Hint:=hfind [(13,.draw [(0,true),(1,true),(2,true),(3,true),(4,true),(5,true),(6,true),(7,true),(8,false),(9,false)] []),(18,.loop {ts:=[(0,.pc 0 0),(3,.sl 55),(5,.pc 3 0),(10,.pc 4 0),(11,.int .i64)],es:=[.cell [.row 1,.int .i64,.row 2],.orow 80,.row 55,.cell [.val 75],.cell [.int .i64,.int .i64,.int .i64,.bool,.bool,.bool,.int .i64,.int .i64,.int .i64,.int .i64,.nx 1 80]]} [(.ret,{ts:=[(8,.int .i64)],es:=[.cell [.row 1,.int .i64,.row 2],.orow 80,.row 55]}),(.exit 0,{ts:=[(0,.pc 0 0),(3,.sl 55),(5,.pc 3 0),(10,.pc 4 0)],es:=[.cell [.row 1,.int .i64,.row 2],.orow 80,.row 55,.cell [.val 75],.cell [.int .i64,.int .i64,.int .i64,.bool,.bool,.bool,.int .i64,.int .i64,.int .i64,.int .i64,.nx 1 80]]})]),(28,.cut [(.normal,{ts:=[(0,.pc 0 0),(3,.sl 55),(5,.pc 3 0),(10,.pc 4 0),(11,.int .i64),(50,.bool)],es:=[.cell [.row 1,.int .i64,.row 2],.orow 80,.row 55,.cell [.val 75],.cell [.int .i64,.int .i64,.int .i64,.bool,.bool,.bool,.int .i64,.int .i64,.int .i64,.int .i64,.nx 1 80]]})]),(41,.loop {ts:=[(0,.pc 0 0),(5,.pc 3 0),(10,.pc 4 0),(12,.row 5),(13,.int .i64)],es:=[.cell [.row 1,.int .i64,.row 2],.orow 80,.row 55,.cell [.val 75],.cell [.int .i64,.int .i64,.int .i64,.bool,.bool,.bool,.int .i64,.int .i64,.int .i64,.int .i64,.nx 1 80],.row 55]} [(.ret,{ts:=[(8,.int .i64)],es:=[.cell [.row 1,.int .i64,.row 2],.orow 80,.row 55]}),(.exit 2,{ts:=[(0,.pc 0 0),(5,.pc 3 0),(10,.pc 4 0)],es:=[.cell [.row 1,.int .i64,.row 2],.orow 80,.row 55,.cell [.val 75],.cell [.int .i64,.int .i64,.int .i64,.bool,.bool,.bool,.int .i64,.int .i64,.int .i64,.int .i64,.nx 1 80]]})]),(64,.loop {ts:=[(0,.pc 0 0),(5,.pc 3 0),(10,.pc 4 0),(15,.int .i64)],es:=[.cell [.row 1,.int .i64,.row 2],.orow 80,.row 55,.cell [.val 75],.cell [.int .i64,.int .i64,.int .i64,.bool,.bool,.bool,.int .i64,.int .i64,.int .i64,.int .i64,.nx 1 80]]} [(.exit 4,{ts:=[(0,.pc 0 0),(5,.pc 3 0)],es:=[.cell [.row 1,.int .i64,.row 2],.orow 80,.row 55,.cell [.val 75]]})]),(76,.draw [(0,true),(1,true),(2,true),(3,true),(4,true),(5,true),(6,true),(7,true),(8,false)] [])]
noncomputable def F59 (x:I59.ty CC):Option (zk CC O59):=zE ⟨false⟩ [P50,P53,P43] lpO Try.prog Try.f44 1 I59 O59 H59 x
noncomputable def P59:Spec CC:=⟨44,1,I59,O59,F59⟩
theorem K59:Spec.OK Try.prog P59:=zl (zh K50 (zh K53 (zh K43 zB))) zr zq H59 (by kernel_rfl) (by kernel_rfl) (by kernel_rfl) fun x=>rfl
def I60:Sig:={ts:=[(0,.pc 0 0),(1,.pc 1 0),(2,.val 51)],es:=[.cell [.row 2,.int .i64,.row 3],.cell [.row 4,.int .i64,.row 5],.forow 49,.row 39,.forow 80,.row 55]}
def O60:List (XK×Sig):=[(.ret,{ts:=[(0,.bool)],es:=[.cell [.row 6,.int .i64,.row 7],.cell [.row 8,.int .i64,.row 9],.gone,.gone,.gone,.gone,.orow 49,.row 39,.orow 80,.row 55]})]
def H60:Nat→Option Hint:=hfind [(3,.draw [(0,true),(1,true),(2,true),(4,true),(5,true),(6,true),(8,true),(9,true),(10,true),(3,false),(7,false),(11,false),(12,false),(13,false),(14,false),(15,false),(16,false),(17,false)] []),(9,.cut [(.normal,{ts:=[(0,.pc 0 0),(1,.pc 1 0),(5,.pc 6 0),(7,.pc 7 0),(8,.pc 8 0),(9,.pc 9 0),(10,.sl 39)],es:=[.cell [.row 2,.int .i64,.row 3],.cell [.row 4,.int .i64,.row 5],.forow 49,.row 39,.forow 80,.row 55,.cell [.val 51],.cell [.val 33],.cell [.val 33],.cell [.val 33]]})]),(10,.draw [(0,true),(1,true),(2,true),(3,true),(4,true),(5,true),(6,true),(7,true),(8,true),(9,true),(10,true),(11,true),(12,true),(13,false),(14,true)] []),(15,.cut [(.ret,{ts:=[(6,.bool)],es:=[.cell [.row 6,.int .i64,.row 7],.cell [.row 8,.int .i64,.row 9],.gone,.gone,.gone,.gone,.orow 49,.row 39,.orow 80,.row 55]}),(.normal,{ts:=[],es:=[.cell [.row 6,.int .i64,.row 7],.cell [.row 4,.int .i64,.row 5],.forow 49,.row 39,.forow 80,.row 55,.orow 49,.row 39]}),(.normal,{ts:=[],es:=[.cell [.row 2,.int .i64,.row 3],.cell [.row 4,.int .i64,.row 5],.forow 49,.row 39,.forow 80,.row 55]})]),(18,.cut [(.ret,{ts:=[(6,.bool)],es:=[.cell [.row 6,.int .i64,.row 7],.cell [.row 8,.int .i64,.row 9],.gone,.gone,.gone,.gone,.orow 49,.row 39,.orow 80,.row 55]}),(.normal,{ts:=[],es:=[.cell [.row 6,.int .i64,.row 7],.cell [.row 4,.int .i64,.row 5],.forow 49,.row 39,.forow 80,.row 55,.orow 49,.row 39]}),(.normal,{ts:=[],es:=[.cell [.row 2,.int .i64,.row 3],.cell [.row 4,.int .i64,.row 5],.forow 49,.row 39,.forow 80,.row 55]})]),(22,.draw [(0,true),(1,true),(4,true),(5,true),(2,false),(3,false),(6,false),(7,false),(8,true),(9,true)] []),(26,.cut [(.ret,{ts:=[(6,.bool)],es:=[.cell [.row 2,.int .i64,.row 6],.cell [.row 4,.int .i64,.row 7],.orow 49,.gone,.orow 80,.gone,.row 39,.row 55]}),(.ret,{ts:=[(6,.bool)],es:=[.cell [.row 2,.int .i64,.row 3],.cell [.row 6,.int .i64,.row 7],.forow 49,.row 39,.forow 80,.row 55,.orow 80,.row 55]}),(.ret,{ts:=[(6,.bool)],es:=[.cell [.row 6,.int .i64,.row 7],.cell [.row 4,.int .i64,.row 5],.forow 49,.row 39,.forow 80,.row 55,.orow 49,.row 39]}),(.ret,{ts:=[(6,.bool)],es:=[.cell [.row 6,.int .i64,.row 7],.cell [.row 8,.int .i64,.row 9],.forow 49,.row 39,.forow 80,.row 55,.orow 49,.row 39,.orow 80,.row 55]}),(.normal,{ts:=[],es:=[.cell [.row 6,.int .i64,.row 7],.cell [.row 4,.int .i64,.row 5],.forow 49,.row 39,.forow 80,.row 55,.orow 49,.row 39]}),(.normal,{ts:=[],es:=[.cell [.row 2,.int .i64,.row 3],.cell [.row 4,.int .i64,.row 5],.forow 49,.row 39,.forow 80,.row 55]})]),(32,.draw [(0,true),(2,true),(1,false),(3,true),(4,true),(5,true),(6,true),(7,true),(8,true),(9,true)] [(.normal,{ts:=[(6,.bool)],es:=[.cell [.row 2,.int .i64,.row 6],.cell [.row 4,.int .i64,.row 7],.forow 49,.gone,.forow 80,.gone,.row 39,.row 55]})]),(36,.cut [(.ret,{ts:=[(6,.bool)],es:=[.cell [.row 2,.int .i64,.row 6],.cell [.row 4,.int .i64,.row 7],.orow 49,.gone,.orow 80,.gone,.row 39,.row 55]}),(.ret,{ts:=[(6,.bool)],es:=[.cell [.row 2,.int .i64,.row 3],.cell [.row 6,.int .i64,.row 7],.forow 49,.row 39,.forow 80,.row 55,.orow 80,.row 55]}),(.ret,{ts:=[(6,.bool)],es:=[.cell [.row 6,.int .i64,.row 7],.cell [.row 4,.int .i64,.row 5],.forow 49,.row 39,.forow 80,.row 55,.orow 49,.row 39]}),(.ret,{ts:=[(6,.bool)],es:=[.cell [.row 6,.int .i64,.row 7],.cell [.row 8,.int .i64,.row 9],.forow 49,.row 39,.forow 80,.row 55,.orow 49,.row 39,.orow 80,.row 55]}),(.normal,{ts:=[],es:=[.cell [.row 6,.int .i64,.row 7],.cell [.row 4,.int .i64,.row 5],.forow 49,.row 39,.forow 80,.row 55,.orow 49,.row 39]}),(.normal,{ts:=[],es:=[.cell [.row 2,.int .i64,.row 3],.cell [.row 4,.int .i64,.row 5],.forow 49,.row 39,.forow 80,.row 55]})]),(38,.draw [(0,true),(1,true),(2,true),(3,true),(4,true),(5,true),(6,false),(7,true)] []),(44,.cut [(.ret,{ts:=[(6,.bool)],es:=[.cell [.row 2,.int .i64,.row 6],.cell [.row 4,.int .i64,.row 7],.orow 49,.gone,.orow 80,.gone,.row 39,.row 55]}),(.ret,{ts:=[(6,.bool)],es:=[.cell [.row 2,.int .i64,.row 3],.cell [.row 6,.int .i64,.row 7],.forow 49,.row 39,.forow 80,.row 55,.orow 80,.row 55]}),(.ret,{ts:=[(6,.bool)],es:=[.cell [.row 6,.int .i64,.row 7],.cell [.row 4,.int .i64,.row 5],.forow 49,.row 39,.forow 80,.row 55,.orow 49,.row 39]}),(.ret,{ts:=[(6,.bool)],es:=[.cell [.row 6,.int .i64,.row 7],.cell [.row 8,.int .i64,.row 9],.forow 49,.row 39,.forow 80,.row 55,.orow 49,.row 39,.orow 80,.row 55]}),(.normal,{ts:=[],es:=[.cell [.row 6,.int .i64,.row 7],.cell [.row 4,.int .i64,.row 5],.forow 49,.row 39,.forow 80,.row 55,.orow 49,.row 39]}),(.normal,{ts:=[],es:=[.cell [.row 2,.int .i64,.row 3],.cell [.row 4,.int .i64,.row 5],.forow 49,.row 39,.forow 80,.row 55]})]),(46,.draw [(0,true),(1,true),(2,true),(3,true),(4,false),(5,false),(6,true),(7,true),(8,true),(9,false),(10,false),(11,true)] []),(48,.draw [(0,true),(1,true),(3,true),(4,true),(2,false),(5,false),(6,false),(7,true),(8,true),(9,true),(10,false),(11,false),(12,true)] []),(50,.draw [(0,true),(2,true),(1,false),(3,true),(4,true),(5,true),(6,true),(7,true),(8,true),(9,true)] [(.normal,{ts:=[(6,.bool)],es:=[.cell [.row 2,.int .i64,.row 6],.cell [.row 4,.int .i64,.row 7],.forow 49,.gone,.forow 80,.gone,.row 39,.row 55]})]),(54,.cut [(.ret,{ts:=[(6,.bool)],es:=[.cell [.row 2,.int .i64,.row 6],.cell [.row 4,.int .i64,.row 7],.orow 49,.gone,.orow 80,.gone,.row 39,.row 55]}),(.ret,{ts:=[(6,.bool)],es:=[.cell [.row 2,.int .i64,.row 3],.cell [.row 6,.int .i64,.row 7],.forow 49,.row 39,.forow 80,.row 55,.orow 80,.row 55]}),(.ret,{ts:=[(6,.bool)],es:=[.cell [.row 6,.int .i64,.row 7],.cell [.row 4,.int .i64,.row 5],.forow 49,.row 39,.forow 80,.row 55,.orow 49,.row 39]}),(.ret,{ts:=[(6,.bool)],es:=[.cell [.row 6,.int .i64,.row 7],.cell [.row 8,.int .i64,.row 9],.forow 49,.row 39,.forow 80,.row 55,.orow 49,.row 39,.orow 80,.row 55]}),(.normal,{ts:=[],es:=[.cell [.row 6,.int .i64,.row 7],.cell [.row 4,.int .i64,.row 5],.forow 49,.row 39,.forow 80,.row 55,.orow 49,.row 39]}),(.normal,{ts:=[],es:=[.cell [.row 2,.int .i64,.row 3],.cell [.row 4,.int .i64,.row 5],.forow 49,.row 39,.forow 80,.row 55]})]),(58,.draw [(0,true),(1,true),(3,true),(2,false),(4,false),(5,false),(6,true),(7,true),(8,true),(9,false),(10,false),(11,true)] []),(60,.draw [(0,true),(2,true),(1,false),(3,true),(4,true),(5,true),(6,true),(7,true),(8,true),(9,true)] [(.normal,{ts:=[(6,.bool)],es:=[.cell [.row 2,.int .i64,.row 6],.cell [.row 4,.int .i64,.row 7],.forow 49,.gone,.forow 80,.gone,.row 39,.row 55]})]),(64,.cut [(.ret,{ts:=[(6,.bool)],es:=[.cell [.row 2,.int .i64,.row 3],.cell [.row 4,.int .i64,.row 5],.orow 49,.row 39,.orow 80,.row 55]}),(.ret,{ts:=[(6,.bool)],es:=[.cell [.row 2,.int .i64,.row 3],.cell [.row 6,.int .i64,.row 7],.forow 49,.row 39,.forow 80,.row 55,.orow 80,.row 55]}),(.ret,{ts:=[(6,.bool)],es:=[.cell [.row 6,.int .i64,.row 7],.cell [.row 4,.int .i64,.row 5],.forow 49,.row 39,.forow 80,.row 55,.orow 49,.row 39]}),(.ret,{ts:=[(6,.bool)],es:=[.cell [.row 6,.int .i64,.row 7],.cell [.row 8,.int .i64,.row 9],.forow 49,.row 39,.forow 80,.row 55,.orow 49,.row 39,.orow 80,.row 55]}),(.normal,{ts:=[],es:=[.cell [.row 6,.int .i64,.row 7],.cell [.row 4,.int .i64,.row 5],.forow 49,.row 39,.forow 80,.row 55,.orow 49,.row 39]}),(.normal,{ts:=[],es:=[.cell [.row 2,.int .i64,.row 3],.cell [.row 4,.int .i64,.row 5],.forow 49,.row 39,.forow 80,.row 55]})]),(66,.draw [(0,true),(1,true),(2,true),(3,true),(5,true),(6,true),(8,true),(10,true),(4,false),(7,false),(9,false),(11,false),(12,false),(13,true),(14,true)] []),(70,.cut [(.ret,{ts:=[(6,.bool)],es:=[.cell [.row 2,.int .i64,.row 3],.cell [.row 4,.int .i64,.row 5],.orow 49,.row 39,.orow 80,.row 55]}),(.ret,{ts:=[(6,.bool)],es:=[.cell [.row 2,.int .i64,.row 3],.cell [.row 6,.int .i64,.row 7],.forow 49,.row 39,.forow 80,.row 55,.orow 80,.row 55]}),(.ret,{ts:=[(6,.bool)],es:=[.cell [.row 6,.int .i64,.row 7],.cell [.row 4,.int .i64,.row 5],.forow 49,.row 39,.forow 80,.row 55,.orow 49,.row 39]}),(.ret,{ts:=[(6,.bool)],es:=[.cell [.row 6,.int .i64,.row 7],.cell [.row 8,.int .i64,.row 9],.forow 49,.row 39,.forow 80,.row 55,.orow 49,.row 39,.orow 80,.row 55]}),(.normal,{ts:=[],es:=[.cell [.row 6,.int .i64,.row 7],.cell [.row 4,.int .i64,.row 5],.forow 49,.row 39,.forow 80,.row 55,.orow 49,.row 39]}),(.normal,{ts:=[],es:=[.cell [.row 2,.int .i64,.row 3],.cell [.row 4,.int .i64,.row 5],.forow 49,.row 39,.forow 80,.row 55]})]),(72,.draw [(0,true),(1,true),(3,true),(4,true),(2,false),(5,false),(6,false),(7,true),(8,true)] []),(76,.cut [(.ret,{ts:=[(6,.bool)],es:=[.cell [.row 2,.int .i64,.row 3],.cell [.row 4,.int .i64,.row 5],.orow 49,.row 39,.orow 80,.row 55]}),(.ret,{ts:=[(6,.bool)],es:=[.cell [.row 2,.int .i64,.row 3],.cell [.row 6,.int .i64,.row 7],.forow 49,.row 39,.forow 80,.row 55,.orow 80,.row 55]}),(.ret,{ts:=[(6,.bool)],es:=[.cell [.row 6,.int .i64,.row 7],.cell [.row 4,.int .i64,.row 5],.forow 49,.row 39,.forow 80,.row 55,.orow 49,.row 39]}),(.ret,{ts:=[(6,.bool)],es:=[.cell [.row 6,.int .i64,.row 7],.cell [.row 8,.int .i64,.row 9],.forow 49,.row 39,.forow 80,.row 55,.orow 49,.row 39,.orow 80,.row 55]}),(.normal,{ts:=[],es:=[.cell [.row 6,.int .i64,.row 7],.cell [.row 4,.int .i64,.row 5],.forow 49,.row 39,.forow 80,.row 55,.orow 49,.row 39]}),(.normal,{ts:=[],es:=[.cell [.row 2,.int .i64,.row 3],.cell [.row 4,.int .i64,.row 5],.forow 49,.row 39,.forow 80,.row 55]})]),(78,.draw [(0,true),(1,true),(2,true),(3,true),(4,true),(6,true),(7,true),(9,true),(10,true),(11,true),(5,false),(8,false),(12,false),(13,false),(14,true),(15,true)] [(.normal,{ts:=[(6,.bool)],es:=[.cell [.row 2,.int .i64,.row 3],.cell [.row 4,.int .i64,.row 5],.forow 49,.row 39,.forow 80,.row 55]}),(.normal,{ts:=[(6,.bool)],es:=[.cell [.row 2,.int .i64,.row 3],.cell [.row 6,.int .i64,.row 7],.forow 49,.row 39,.forow 80,.row 55,.orow 80,.row 55]}),(.normal,{ts:=[(6,.bool)],es:=[.cell [.row 6,.int .i64,.row 7],.cell [.row 4,.int .i64,.row 5],.forow 49,.row 39,.forow 80,.row 55,.orow 49,.row 39]}),(.normal,{ts:=[(6,.bool)],es:=[.cell [.row 6,.int .i64,.row 7],.cell [.row 8,.int .i64,.row 9],.forow 49,.row 39,.forow 80,.row 55,.orow 49,.row 39,.orow 80,.row 55]})]),(82,.cut [(.ret,{ts:=[(6,.bool)],es:=[.cell [.row 2,.int .i64,.row 3],.cell [.row 4,.int .i64,.row 5],.orow 49,.row 39,.orow 80,.row 55]}),(.normal,{ts:=[],es:=[.cell [.row 6,.int .i64,.row 7],.cell [.row 4,.int .i64,.row 5],.forow 49,.row 39,.forow 80,.row 55,.orow 49,.row 39]}),(.normal,{ts:=[],es:=[.cell [.row 2,.int .i64,.row 3],.cell [.row 4,.int .i64,.row 5],.forow 49,.row 39,.forow 80,.row 55]})]),(84,.draw [(0,true),(1,true),(2,true),(3,true),(4,true),(6,true),(7,true),(9,true),(10,true),(11,true),(5,false),(8,false),(12,false),(13,false),(14,true),(15,true)] []),(88,.cut [(.normal,{ts:=[],es:=[.cell [.row 6,.int .i64,.row 7],.cell [.row 4,.int .i64,.row 5],.forow 49,.row 39,.forow 80,.row 55,.orow 49,.row 39]}),(.normal,{ts:=[],es:=[.cell [.row 2,.int .i64,.row 3],.cell [.row 4,.int .i64,.row 5],.forow 49,.row 39,.forow 80,.row 55]})])]
noncomputable def F60 (x:I60.ty CC):Option (zk CC O60):=zE ⟨false⟩ [P28,P29,P30,P2,P31,P32,P33,P18,P34,P17,P35,P36,P27,P37,P38,P19,P45,P46,P47,P48,P49,P25,P54,P58,P59,P22] lpO Try.prog Try.f14 1 I60 O60 H60 x
noncomputable def P60:Spec CC:=⟨14,1,I60,O60,F60⟩
theorem K60:Spec.OK Try.prog P60:=zl (zh K28 (zh K29 (zh K30 (zh K2 (zh K31 (zh K32 (zh K33 (zh K18 (zh K34 (zh K17 (zh K35 (zh K36 (zh K27 (zh K37 (zh K38 (zh K19 (zh K45 (zh K46 (zh K47 (zh K48 (zh K49 (zh K25 (zh K54 (zh K58 (zh K59 (zh K22 zB)))))))))))))))))))))))))) zr zq H60 (by kernel_rfl) (by kernel_rfl) (by kernel_rfl) fun x=>rfl
def I66:Sig:={ts:=[(0,.pc 0 0),(1,.pc 1 0)],es:=[.cell [.row 2,.int .i64,.row 3],.cell [.row 4,.int .i64,.row 5],.forow 49,.row 39,.forow 80,.row 55]}
def O66:List (XK×Sig):=[(.ret,{ts:=[(0,.bool)],es:=[.cell [.row 2,.int .i64,.row 3],.cell [.row 4,.int .i64,.row 5],.forow 49,.row 39,.forow 80,.row 55]})]
def H66:Nat→Option Hint:=hfind [(4,.draw [(0,true),(1,true),(2,true),(3,true),(4,true),(5,true),(6,true),(7,true),(8,true),(9,true),(10,true),(11,true),(12,true),(13,true),(14,true),(15,true),(16,true),(17,true),(18,true),(19,true),(20,true),(21,true),(22,true),(23,true),(24,true),(25,true),(26,true),(27,true),(28,true),(29,true),(30,true),(31,true),(32,true),(33,true),(34,true)] [(.normal,{ts:=[(0,.pc 0 0),(1,.pc 1 0),(45,.bool)],es:=[.cell [.row 2,.int .i64,.row 3],.cell [.row 4,.int .i64,.row 5],.forow 49,.row 39,.forow 80,.row 55]})]),(14,.loop {ts:=[(0,.pc 0 0),(1,.pc 1 0),(49,.row 3),(50,.int .i64),(51,.int .i64)],es:=[.cell [.row 2,.int .i64,.row 3],.cell [.row 4,.int .i64,.row 5],.forow 49,.row 39,.forow 80,.row 55]} [(.ret,{ts:=[(4,.bool)],es:=[.cell [.row 2,.int .i64,.row 3],.cell [.row 4,.int .i64,.row 5],.forow 49,.row 39,.forow 80,.row 55]}),(.exit 0,{ts:=[(0,.pc 0 0),(1,.pc 1 0)],es:=[.cell [.row 2,.int .i64,.row 3],.cell [.row 4,.int .i64,.row 5],.forow 49,.row 39,.forow 80,.row 55]})]),(26,.draw [(0,true),(1,true),(2,true),(3,true),(4,true),(5,true),(6,true),(7,true),(8,true),(9,true),(10,true),(11,true),(12,true),(13,true),(14,true)] []),(37,.loop {ts:=[(0,.pc 0 0),(1,.pc 1 0),(76,.int .i64),(77,.int .i64)],es:=[.cell [.row 2,.int .i64,.row 3],.cell [.row 4,.int .i64,.row 5],.forow 49,.row 39,.forow 80,.row 55]} [(.ret,{ts:=[(4,.bool)],es:=[.cell [.row 2,.int .i64,.row 3],.cell [.row 4,.int .i64,.row 5],.forow 49,.row 39,.forow 80,.row 55]}),(.exit 2,{ts:=[],es:=[.cell [.row 2,.int .i64,.row 3],.cell [.row 4,.int .i64,.row 5],.forow 49,.row 39,.forow 80,.row 55]})]),(45,.cut [(.ret,{ts:=[(4,.bool)],es:=[.cell [.row 2,.int .i64,.row 3],.cell [.row 4,.int .i64,.row 5],.forow 49,.row 39,.forow 80,.row 55]}),(.normal,{ts:=[(0,.pc 0 0),(1,.pc 1 0),(76,.int .i64),(77,.int .i64)],es:=[.cell [.row 2,.int .i64,.row 3],.cell [.row 4,.int .i64,.row 5],.forow 49,.row 39,.forow 80,.row 55]})]),(49,.draw [(0,true),(1,true),(2,true),(3,true),(4,true),(5,true),(6,true),(8,true),(9,true),(10,true),(11,true),(12,true),(13,true),(14,true),(7,false),(15,false),(16,false),(17,false),(18,false)] []),(52,.cut [(.normal,{ts:=[(0,.pc 0 0),(1,.pc 1 0),(8,.pc 6 0),(9,.pc 7 0),(76,.int .i64),(77,.int .i64),(150,.bool)],es:=[.cell [.row 2,.int .i64,.row 3],.cell [.row 4,.int .i64,.row 5],.forow 49,.row 39,.forow 80,.row 55,.cell [.int .i64,.int .i64,.int .i64,.bool,.bool,.bool,.int .i64,.int .i64,.int .i64,.int .i64,.row 8],.cell [.int .i64,.int .i64,.int .i64,.bool,.bool,.bool,.int .i64,.int .i64,.int .i64,.int .i64,.nx 4 80],.row 75]})]),(61,.loop {ts:=[(0,.pc 0 0),(1,.pc 1 0),(8,.pc 6 0),(9,.pc 7 0),(76,.int .i64),(77,.int .i64),(153,.int .i64),(154,.int .i64)],es:=[.cell [.row 2,.int .i64,.row 3],.cell [.row 4,.int .i64,.row 5],.forow 49,.row 39,.forow 80,.row 55,.cell [.int .i64,.int .i64,.int .i64,.bool,.bool,.bool,.int .i64,.int .i64,.int .i64,.int .i64,.row 8],.cell [.int .i64,.int .i64,.int .i64,.bool,.bool,.bool,.int .i64,.int .i64,.int .i64,.int .i64,.nx 4 80],.row 75]} [(.ret,{ts:=[(4,.bool)],es:=[.cell [.row 2,.int .i64,.row 3],.cell [.row 4,.int .i64,.row 5],.forow 49,.row 39,.forow 80,.row 55]}),(.exit 4,{ts:=[(0,.pc 0 0),(1,.pc 1 0),(76,.int .i64),(77,.int .i64)],es:=[.cell [.row 2,.int .i64,.row 3],.cell [.row 4,.int .i64,.row 5],.forow 49,.row 39,.forow 80,.row 55]})]),(73,.draw [(0,true),(1,true),(2,true),(3,true),(4,true),(5,true),(6,true),(7,true),(8,true),(9,true),(10,true)] [])]
noncomputable def F66 (x:I66.ty CC):Option (zk CC O66):=zE ⟨false⟩ [P32] lpO Try.prog Try.f19 1 I66 O66 H66 x
noncomputable def P66:Spec CC:=⟨19,1,I66,O66,F66⟩
theorem K66:Spec.OK Try.prog P66:=zl (zh K32 zB) zr zq H66 (by kernel_rfl) (by kernel_rfl) (by kernel_rfl) fun x=>rfl
def I67:Sig:={ts:=[(0,.sl 51),(1,.sl 51)],es:=[]}
def O67:List (XK×Sig):=[(.ret,{ts:=[(0,.bool)],es:=[]})]
def H67:Nat→Option Hint:=hfind [(16,.loop {ts:=[(1,.sl 51),(5,.pc 0 0),(6,.pc 1 0),(26,.sl 51),(27,.int .i64),(28,.int .i64)],es:=[.cell [.row 2,.int .i64,.row 3],.cell [.row 4,.int .i64,.row 5],.orow 49,.row 39,.orow 80,.row 55]} [(.exit 0,{ts:=[(1,.sl 51),(5,.pc 0 0),(6,.pc 1 0)],es:=[.cell [.row 2,.int .i64,.row 3],.cell [.row 4,.int .i64,.row 5],.orow 49,.row 39,.orow 80,.row 55]})]),(35,.loop {ts:=[(1,.sl 51),(5,.pc 0 0),(6,.pc 1 0),(9,.pc 2 0),(43,.sl 51),(44,.int .i64),(45,.int .i64)],es:=[.cell [.row 3,.int .i64,.row 4],.cell [.row 5,.int .i64,.row 6],.cell [.row 7,.int .i64,.row 8],.orow 49,.row 39,.orow 80,.row 55,.orow 49,.row 39]} [(.ret,{ts:=[(4,.bool)],es:=[]}),(.exit 2,{ts:=[(1,.sl 51),(5,.pc 0 0),(6,.pc 1 0),(9,.pc 2 0)],es:=[.cell [.row 3,.int .i64,.row 4],.cell [.row 5,.int .i64,.row 6],.cell [.row 7,.int .i64,.row 8],.orow 49,.row 39,.orow 80,.row 55,.orow 49,.row 39]})]),(56,.draw [(0,true),(1,true),(3,true),(2,false),(4,false)] []),(64,.loop {ts:=[(5,.pc 0 0),(6,.pc 1 0),(9,.pc 2 0),(13,.pc 3 0),(69,.sl 51),(70,.int .i64),(71,.int .i64)],es:=[.cell [.row 4,.int .i64,.row 5],.cell [.row 6,.int .i64,.row 7],.cell [.row 8,.int .i64,.row 9],.cell [.row 10,.int .i64,.row 11],.orow 49,.row 39,.orow 80,.row 55,.orow 49,.row 39,.orow 80,.row 55]} [(.ret,{ts:=[(4,.bool)],es:=[]}),(.exit 4,{ts:=[(5,.pc 0 0),(6,.pc 1 0),(9,.pc 2 0),(13,.pc 3 0)],es:=[.cell [.row 4,.int .i64,.row 5],.cell [.row 6,.int .i64,.row 7],.cell [.row 8,.int .i64,.row 9],.cell [.row 10,.int .i64,.row 11],.orow 49,.row 39,.orow 80,.row 55,.orow 49,.row 39,.orow 80,.row 55]})]),(84,.cut [(.normal,{ts:=[(4,.bool)],es:=[]})])]
noncomputable def F67 (x:I67.ty CC):Option (zk CC O67):=zE ⟨false⟩ [P26,P60,P22,P51,P66] lpO Try.prog Try.f5 1 I67 O67 H67 x
noncomputable def P67:Spec CC:=⟨5,1,I67,O67,F67⟩
theorem K67:Spec.OK Try.prog P67:=zl (zh K26 (zh K60 (zh K22 (zh K51 (zh K66 zB))))) zr zq H67 (by kernel_rfl) (by kernel_rfl) (by kernel_rfl) fun x=>rfl
end Go.Px
