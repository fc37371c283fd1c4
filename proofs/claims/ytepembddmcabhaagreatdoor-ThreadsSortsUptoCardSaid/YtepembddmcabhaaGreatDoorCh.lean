/- Part Ch: PxT22. -/
import Derived.Test.YtepembddmcabhaaGreatDoorProg
import Derived.Test.YtepembddmcabhaaGreatDoorB1
import Derived.Test.YtepembddmcabhaaGreatDoorA7
import Derived.Test.YtepembddmcabhaaGreatDoorA6
import Derived.Test.YtepembddmcabhaaGreatDoorSf
namespace Go.Px
open Go.Proofs
set_option linter.unusedVariables false
set_option maxRecDepth 100000
theorem ZF:Tryz.prog.follows .mixedOrders=true:=by kernel_rfl
def GLk:World→FS→Prop:=fun _ σ=>(∃ t p,σ 0 0=some (.iface t p))∧∃ t p,σ 1 0=some (.iface t p)
theorem glm {σ τ:FS}{w w':World}{h:zd}(l:σ.le τ) (_:Ext w h w') (g:GLk w σ):GLk w' τ:=by
  obtain ⟨⟨t,p,a⟩,t',p',b⟩:=g
  exact ⟨⟨t,p,l _ _ _ a⟩,t',p',l _ _ _ b⟩
structure qq where
  Kind_:Int
  Text_:ByteArray
  Num_:Int
  At_:Int
structure q6 where
  tokens_:(Sl qq)
  deep_:Int
structure q8 where
  Kind_:Int
  Text_:ByteArray
  Num_:Int
  At_:Int
  Kids_:(Sl q8)
structure qp where
  Name_:ByteArray
  Size_:Int
structure qt where
  X_:Int
  Y_:Int
  C_:Int
structure qa where
  Name_:ByteArray
  Sort_:Int
  Of_:Int
  Fields_:(Sl qp)
  Facts_:(Sl qt)
structure qj where
  Name_:ByteArray
  Mode_:Int
  Type_:Int
structure qf where
  Name_:ByteArray
  Params_:(Sl qj)
  Ret_:qj
structure q9 where
  Kind_:Int
  Text_:ByteArray
  Num_:Int
  At_:Int
structure q7 where
  Kind_:Int
  Text_:ByteArray
  Num_:Int
  At_:Int
  Kids_:(Sl q7)
structure ql where
  Name_:ByteArray
  Size_:Int
structure qr where
  X_:Int
  Y_:Int
  C_:Int
structure qd where
  Name_:ByteArray
  Sort_:Int
  Of_:Int
  Fields_:(Sl ql)
  Facts_:(Sl qr)
structure qi where
  Name_:ByteArray
  Mode_:Int
  Type_:Int
structure qh where
  Name_:ByteArray
  Params_:(Sl qi)
  Ret_:qi
structure qx where
  fns_:(Sl q8)
  types_:(Sl qa)
  sigs_:(Sl qf)
  rfns_:(Sl q7)
  rtypes_:(Sl qd)
  rsigs_:(Sl qh)
structure qe where
  Name_:ByteArray
  Params_:Int
  Vars_:(Sl qj)
structure qw where
  Name_:ByteArray
  Num_:Int
structure qk where
  Op_:Int
  At_:Int
  X_:ByteArray
  Y_:ByteArray
  A_:qw
  B_:qw
  Args_:(Sl qw)
  To_:Int
  Has_:Bool
structure q17 where
  Name_:ByteArray
  Params_:(Sl ByteArray)
  List_:(Sl qk)
structure qg where
  Name_:ByteArray
  Params_:Int
  Vars_:(Sl qi)
structure qn where
  Name_:ByteArray
  Num_:Int
structure qm where
  Op_:Int
  At_:Int
  X_:ByteArray
  Y_:ByteArray
  A_:qn
  B_:qn
  Args_:(Sl qn)
  To_:Int
  Has_:Bool
structure q14 where
  Name_:ByteArray
  Params_:(Sl ByteArray)
  List_:(Sl qm)
structure q18 where
  fns_:(Sl qe)
  codes_:(Sl q17)
  rfns_:(Sl qg)
  rcodes_:(Sl q14)
structure qu where
  Code_:q17
  Fn_:qe
  Sigs_:(Sl qf)
  Fns_:(Sl qe)
  Types_:(Sl qa)
structure q10 where
  Code_:q14
  Fn_:qg
  Sigs_:(Sl qh)
  Fns_:(Sl qg)
  Types_:(Sl qd)
abbrev DT:List (Nat×Type):=[(151,qq),(148,q6),(112,q8),(229,qp),(283,qt),(65,qa),(9,ByteArray),(61,qj),(130,qf),(164,q9),(116,q7),(238,ql),(241,qr),(100,qd),(3,Int),(96,qi),(198,qh),(71,qx),(33,qe),(52,qw),(55,qk),(30,q17),(84,qg),(91,qn),(94,qm),(81,q14),(76,q18),(39,qu),(86,q10),(45,q10)]
abbrev DD:Nat→Type:=zpR DT
def ET:List ((T:Nat)×TyE DD T):=[⟨151,true,[.int .i64,.str,.int .i64,.int .i64],fun (x:qq)=>(x.Kind_,x.Text_,x.Num_,x.At_,()),fun (a0,a1,a2,a3,_)=>some (show qq from ⟨a0,a1,a2,a3⟩),fun x y h=>by cases h;rfl⟩,
  ⟨148,true,[.sl 151,.int .i64],fun (x:q6)=>(x.tokens_,x.deep_,()),fun (a0,a1,_)=>some (show q6 from ⟨a0,a1⟩),fun x y h=>by cases h;rfl⟩,
  ⟨112,true,[.int .i64,.str,.int .i64,.int .i64,.sl 112],fun (x:q8)=>(x.Kind_,x.Text_,x.Num_,x.At_,x.Kids_,()),fun (a0,a1,a2,a3,a4,_)=>some (show q8 from ⟨a0,a1,a2,a3,a4⟩),fun x y h=>by cases h;rfl⟩,
  ⟨229,true,[.str,.int .i64],fun (x:qp)=>(x.Name_,x.Size_,()),fun (a0,a1,_)=>some (show qp from ⟨a0,a1⟩),fun x y h=>by cases h;rfl⟩,
  ⟨283,true,[.int .i64,.int .i64,.int .i64],fun (x:qt)=>(x.X_,x.Y_,x.C_,()),fun (a0,a1,a2,_)=>some (show qt from ⟨a0,a1,a2⟩),fun x y h=>by cases h;rfl⟩,
  ⟨65,true,[.str,.int .i64,.int .i64,.sl 229,.sl 283],fun (x:qa)=>(x.Name_,x.Sort_,x.Of_,x.Fields_,x.Facts_,()),fun (a0,a1,a2,a3,a4,_)=>some (show qa from ⟨a0,a1,a2,a3,a4⟩),fun x y h=>by cases h;rfl⟩,
  ⟨9,false,[.str],fun (x:ByteArray)=>(x,()),fun (a0,_)=>some (show ByteArray from a0),fun x y h=>by cases h;rfl⟩,
  ⟨61,true,[.str,.int .i64,.int .i64],fun (x:qj)=>(x.Name_,x.Mode_,x.Type_,()),fun (a0,a1,a2,_)=>some (show qj from ⟨a0,a1,a2⟩),fun x y h=>by cases h;rfl⟩,
  ⟨130,true,[.str,.sl 61,.str,.int .i64,.int .i64],fun (x:qf)=>(x.Name_,x.Params_,x.Ret_.Name_,x.Ret_.Mode_,x.Ret_.Type_,()),fun (a0,a1,a2,a3,a4,_)=>some (show qf from ⟨a0,a1,⟨a2,a3,a4⟩⟩),fun x y h=>by cases h;rfl⟩,
  ⟨164,true,[.int .i64,.str,.int .i64,.int .i64],fun (x:q9)=>(x.Kind_,x.Text_,x.Num_,x.At_,()),fun (a0,a1,a2,a3,_)=>some (show q9 from ⟨a0,a1,a2,a3⟩),fun x y h=>by cases h;rfl⟩,
  ⟨116,true,[.int .i64,.str,.int .i64,.int .i64,.sl 116],fun (x:q7)=>(x.Kind_,x.Text_,x.Num_,x.At_,x.Kids_,()),fun (a0,a1,a2,a3,a4,_)=>some (show q7 from ⟨a0,a1,a2,a3,a4⟩),fun x y h=>by cases h;rfl⟩,
  ⟨238,true,[.str,.int .i64],fun (x:ql)=>(x.Name_,x.Size_,()),fun (a0,a1,_)=>some (show ql from ⟨a0,a1⟩),fun x y h=>by cases h;rfl⟩,
  ⟨241,true,[.int .i64,.int .i64,.int .i64],fun (x:qr)=>(x.X_,x.Y_,x.C_,()),fun (a0,a1,a2,_)=>some (show qr from ⟨a0,a1,a2⟩),fun x y h=>by cases h;rfl⟩,
  ⟨100,true,[.str,.int .i64,.int .i64,.sl 238,.sl 241],fun (x:qd)=>(x.Name_,x.Sort_,x.Of_,x.Fields_,x.Facts_,()),fun (a0,a1,a2,a3,a4,_)=>some (show qd from ⟨a0,a1,a2,a3,a4⟩),fun x y h=>by cases h;rfl⟩,
  ⟨3,false,[.int .i64],fun (x:Int)=>(x,()),fun (a0,_)=>some (show Int from a0),fun x y h=>by cases h;rfl⟩,
  ⟨96,true,[.str,.int .i64,.int .i64],fun (x:qi)=>(x.Name_,x.Mode_,x.Type_,()),fun (a0,a1,a2,_)=>some (show qi from ⟨a0,a1,a2⟩),fun x y h=>by cases h;rfl⟩,
  ⟨198,true,[.str,.sl 96,.str,.int .i64,.int .i64],fun (x:qh)=>(x.Name_,x.Params_,x.Ret_.Name_,x.Ret_.Mode_,x.Ret_.Type_,()),fun (a0,a1,a2,a3,a4,_)=>some (show qh from ⟨a0,a1,⟨a2,a3,a4⟩⟩),fun x y h=>by cases h;rfl⟩,
  ⟨71,true,[.sl 112,.sl 65,.sl 130,.sl 116,.sl 100,.sl 198],fun (x:qx)=>(x.fns_,x.types_,x.sigs_,x.rfns_,x.rtypes_,x.rsigs_,()),fun (a0,a1,a2,a3,a4,a5,_)=>some (show qx from ⟨a0,a1,a2,a3,a4,a5⟩),fun x y h=>by cases h;rfl⟩,
  ⟨33,true,[.str,.int .i64,.sl 61],fun (x:qe)=>(x.Name_,x.Params_,x.Vars_,()),fun (a0,a1,a2,_)=>some (show qe from ⟨a0,a1,a2⟩),fun x y h=>by cases h;rfl⟩,
  ⟨52,true,[.str,.int .i64],fun (x:qw)=>(x.Name_,x.Num_,()),fun (a0,a1,_)=>some (show qw from ⟨a0,a1⟩),fun x y h=>by cases h;rfl⟩,
  ⟨55,true,[.int .i64,.int .i64,.str,.str,.str,.int .i64,.str,.int .i64,.sl 52,.int .i64,.bool],fun (x:qk)=>(x.Op_,x.At_,x.X_,x.Y_,x.A_.Name_,x.A_.Num_,x.B_.Name_,x.B_.Num_,x.Args_,x.To_,x.Has_,()),fun (a0,a1,a2,a3,a4,a5,a6,a7,a8,a9,a10,_)=>some (show qk from ⟨a0,a1,a2,a3,⟨a4,a5⟩,⟨a6,a7⟩,a8,a9,a10⟩),fun x y h=>by cases h;rfl⟩,
  ⟨30,true,[.str,.sl 9,.sl 55],fun (x:q17)=>(x.Name_,x.Params_,x.List_,()),fun (a0,a1,a2,_)=>some (show q17 from ⟨a0,a1,a2⟩),fun x y h=>by cases h;rfl⟩,
  ⟨84,true,[.str,.int .i64,.sl 96],fun (x:qg)=>(x.Name_,x.Params_,x.Vars_,()),fun (a0,a1,a2,_)=>some (show qg from ⟨a0,a1,a2⟩),fun x y h=>by cases h;rfl⟩,
  ⟨91,true,[.str,.int .i64],fun (x:qn)=>(x.Name_,x.Num_,()),fun (a0,a1,_)=>some (show qn from ⟨a0,a1⟩),fun x y h=>by cases h;rfl⟩,
  ⟨94,true,[.int .i64,.int .i64,.str,.str,.str,.int .i64,.str,.int .i64,.sl 91,.int .i64,.bool],fun (x:qm)=>(x.Op_,x.At_,x.X_,x.Y_,x.A_.Name_,x.A_.Num_,x.B_.Name_,x.B_.Num_,x.Args_,x.To_,x.Has_,()),fun (a0,a1,a2,a3,a4,a5,a6,a7,a8,a9,a10,_)=>some (show qm from ⟨a0,a1,a2,a3,⟨a4,a5⟩,⟨a6,a7⟩,a8,a9,a10⟩),fun x y h=>by cases h;rfl⟩,
  ⟨81,true,[.str,.sl 9,.sl 94],fun (x:q14)=>(x.Name_,x.Params_,x.List_,()),fun (a0,a1,a2,_)=>some (show q14 from ⟨a0,a1,a2⟩),fun x y h=>by cases h;rfl⟩,
  ⟨76,true,[.sl 33,.sl 30,.sl 84,.sl 81],fun (x:q18)=>(x.fns_,x.codes_,x.rfns_,x.rcodes_,()),fun (a0,a1,a2,a3,_)=>some (show q18 from ⟨a0,a1,a2,a3⟩),fun x y h=>by cases h;rfl⟩,
  ⟨39,true,[.str,.sl 9,.sl 55,.str,.int .i64,.sl 61,.sl 130,.sl 33,.sl 65],fun (x:qu)=>(x.Code_.Name_,x.Code_.Params_,x.Code_.List_,x.Fn_.Name_,x.Fn_.Params_,x.Fn_.Vars_,x.Sigs_,x.Fns_,x.Types_,()),fun (a0,a1,a2,a3,a4,a5,a6,a7,a8,_)=>some (show qu from ⟨⟨a0,a1,a2⟩,⟨a3,a4,a5⟩,a6,a7,a8⟩),fun x y h=>by cases h;rfl⟩,
  ⟨86,true,[.str,.sl 9,.sl 94,.str,.int .i64,.sl 96,.sl 198,.sl 84,.sl 100],fun (x:q10)=>(x.Code_.Name_,x.Code_.Params_,x.Code_.List_,x.Fn_.Name_,x.Fn_.Params_,x.Fn_.Vars_,x.Sigs_,x.Fns_,x.Types_,()),fun (a0,a1,a2,a3,a4,a5,a6,a7,a8,_)=>some (show q10 from ⟨⟨a0,a1,a2⟩,⟨a3,a4,a5⟩,a6,a7,a8⟩),fun x y h=>by cases h;rfl⟩,
  ⟨45,false,[.pz 86],fun (x:q10)=>(x,()),fun (a0,_)=>some (show q10 from a0),fun x y h=>by cases h;rfl⟩]
def CC:Cod:=ztE DD ET GLk glm (nst:=fun t=>bif Nat.beq t 84 then 2 else bif Nat.beq t 33 then 2 else 0) (own:=fun t=>Nat.beq t 84 || Nat.beq t 33 || false) (bz:=fun t=>Nat.beq t 86 || false)
def od:List Nat→List (Nat×Bool):=List.map fun n=>(n / 2,Nat.beq (n % 2) 1)
noncomputable def spA (b:Bool) (Γ:List (Spec CC)) (f nr:Nat) (fn:Func) (I:Sig) (O:List (XK×Sig)) (H:Nat→Option Hint):Spec CC:=⟨f,nr,I,O,fun x=>wT ⟨b⟩ Γ lpO Tryz.prog fn nr I O H x⟩
theorem kA {b : Bool} {Γ : List (Spec CC)} {f nr : Nat} {fn : Func} {I : Sig} {O : List (XK × Sig)} {H : Nat → Option Hint} (h : ∀ s ∈ Γ, s.OK Tryz.prog) (e : (Tryz.prog.funcs[f]?, (fn.name == "runtime.NumGoroutine"), fn.body.isNone) = (some fn, false, false)) : (spA b Γ f nr fn I O H).OK Tryz.prog :=
  yM h ZF ZE H (Prod.mk.inj e).1 (Prod.mk.inj (Prod.mk.inj e).2).1 (Prod.mk.inj (Prod.mk.inj e).2).2 fun x=>rfl
abbrev ii:Sh :=.int .i64
abbrev c0:ESh :=.cell [.sl 130,.sl 65,.row 1,ii,.pr 1 33 0]
abbrev c1:ESh :=.cell [ii,.str,ii,ii,.nils]
abbrev c2:ESh :=.cell [.val 148]
abbrev c3:ESh :=.cell [.row 1,ii,ii,ii,ii]
abbrev c4:ESh :=.cell [.sl 198,.sl 100,.row 1,ii,ii]
abbrev c5:ESh :=.cell [ii,ii,.str,.str,.str,ii,.str,ii,.nils,ii,.bool]
abbrev c6:ESh :=.cell [.val 112]
abbrev c7:ESh :=.cell [.val 116]
abbrev c8:ESh :=.cell [ii,.str,ii,ii,.row 4]
abbrev c9:ESh :=.cell [.val 61]
abbrev c10:ESh :=.cell [.str,ii,ii,.nils,.nils]
abbrev c11:ESh :=.cell [ii]
abbrev c12:ESh :=.cell [ii,ii,.str,.str,.str,ii,.str,ii,.row 2,ii,.bool]
abbrev c13:ESh :=.cell [.val 96]
abbrev c14:ESh :=.cell [ii,ii,.str,.str,.str,ii,.str,ii,.row 3,ii,.bool]
abbrev c15:ESh :=.cell [.sl 130,.sl 65,.row 1,ii,.pnil]
abbrev c16:ESh :=.cell [.str,ii,ii,.row 1,.row 2]
abbrev c17:ESh :=.cell [.str,.nils,.str,ii,ii]
abbrev c18:ESh :=.cell [ii,.str,ii,ii,.row 3]
abbrev c19:ESh :=.cell [.val 164]
abbrev c20:ESh :=.cell [.str]
abbrev c21:ESh :=.cell [.nils,.nils,.nils,.nils,.nils,.nils]
abbrev c22:ESh :=.cell [.row 1]
abbrev c23:ESh :=.cell [.str,ii,.nils]
abbrev c24:ESh :=.cell [.str,ii,ii,.row 2,.nils]
abbrev c25:ESh :=.cell [.sl 198,.sl 100,.row 2,ii,ii]
abbrev c26:ESh :=.cell [.nils]
abbrev c27:ESh :=.cell [.str,ii,ii,.row 6,.nils]
abbrev c29:ESh :=.cell [.val 39]
abbrev c30:ESh :=.cell [.str,ii,ii,.row 2,.row 3]
abbrev c31:ESh :=.cell [.str,ii,ii,.row 6,.row 7]
abbrev c32:ESh :=.cell [.str,ii,ii,.row 5,.nils]
abbrev c33:ESh :=.cell [.str,.row 3,.str,ii,ii]
abbrev c34:ESh :=.cell [.sl 130,.sl 65,.row 5,ii,.pnil]
abbrev c35:ESh :=.cell [.str,.row 3,.nils]
abbrev c36:ESh :=.cell [ii,.str,ii,ii,.row 2]
abbrev c37:ESh :=.cell [.str,.nils,.nils]
abbrev c38:ESh :=.cell [.row 4]
abbrev c39:ESh :=.cell [.row 3,ii,ii,ii,ii]
abbrev c40:ESh :=.cell [.val 151]
abbrev c41:ESh :=.cell [.str,ii,ii,.row 7,.nils]
abbrev c42:ESh :=.cell [.str,.row 4,.str,ii,ii]
abbrev c43:ESh :=.cell [.str,.row 5,.str,ii,ii]
abbrev c44:ESh :=.cell [.nils,.nils,.nils,.nils]
abbrev c45:ESh :=.cell [.row 2]
abbrev c46:ESh :=.cell [.str,ii,.row 5]
abbrev c47:ESh :=.cell [.str,ii,.row 1]
abbrev c48:ESh :=.cell [.val 55]
abbrev c49:ESh :=.cell [.str,ii,ii,.row 4,.nils]
abbrev c50:ESh :=.cell [.row 3]
abbrev c51:ESh :=.cell [ii,.str,ii,ii,.row 5]
abbrev c52:ESh :=.cell [.str,ii,.row 7]
abbrev c53:ESh :=.cell [.val 71]
abbrev c54:ESh :=.cell [.str,ii,.row 6]
abbrev c55:ESh :=.cell [ii,ii]
noncomputable def P0:=spA false [] 73 1 Tryz.f73 ⟨[(0,.int .u8)],[]⟩ [(.ret,⟨[(0,.bool)],[]⟩)] (hfind [])
theorem K0:P0.OK Tryz.prog:=kA zi (by kernel_rfl)
noncomputable def P1:=spA false [P0] 72 1 Tryz.f72 ⟨[(0,.str),(1,ii),(2,.clo 73 [])],[]⟩ [(.ret,⟨[(0,ii)],[]⟩)] (hfind [(4,.loop ⟨[(0,.str),(1,ii),(2,.clo 73 [])],[]⟩ [(.exit 0,⟨[(1,ii)],[]⟩)]),(7,.cut [(.normal,⟨[(0,.str),(1,ii),(2,.clo 73 []),(17,.bool)],[]⟩)])])
theorem K1:P1.OK Tryz.prog:=kA (za K0 zi) (by kernel_rfl)
noncomputable def P2:=spA false [] 74 1 Tryz.f74 ⟨[(0,.int .u8)],[]⟩ [(.ret,⟨[(0,.bool)],[]⟩)] (hfind [(3,.cut [(.normal,⟨[(2,.bool)],[]⟩)])])
theorem K2:P2.OK Tryz.prog:=kA zi (by kernel_rfl)
noncomputable def P3:=spA false [P2] 72 1 Tryz.f72 ⟨[(0,.str),(1,ii),(2,.clo 74 [])],[]⟩ [(.ret,⟨[(0,ii)],[]⟩)] (hfind [(4,.loop ⟨[(0,.str),(1,ii),(2,.clo 74 [])],[]⟩ [(.exit 0,⟨[(1,ii)],[]⟩)]),(7,.cut [(.normal,⟨[(0,.str),(1,ii),(2,.clo 74 []),(17,.bool)],[]⟩)])])
theorem K3:P3.OK Tryz.prog:=kA (za K2 zi) (by kernel_rfl)
def I4:Sig:=⟨[(0,.str),(1,ii),(2,ii)],[]⟩
def O4:List (XK×Sig):=[(.ret,⟨[(0,ii),(1,.nili)],[]⟩),(.ret,⟨[(0,ii),(1,.ifc 289 (.und))],[]⟩)]
def F4 (x:I4.ty CC):Option (zk CC O4):=zas x
def P4:Spec CC:=⟨127,2,I4,O4,F4⟩
theorem K4:P4.OK Tryz.prog:=zgq (fn:=Tryz.f127) (by kernel_rfl) (by kernel_rfl) (by kernel_rfl) (fun s hs v h w=>Tryz.strconv_ParseInt_10_at64_ok s hs v h w) (fun s hs h w σ hg hw=>by
    obtain ⟨⟨t,p,a⟩,_⟩:=hg
    refine (Tryz.strconv_ParseInt_10_at64_syntax s hs h _ w (hw 0 0 _ a) (.inr ⟨_,_,rfl⟩)).mono ?_
    rintro e w' ⟨N,rfl,_,_,hb⟩
    exact ⟨_,rfl,hb⟩) (fun s hs h w σ hg hw=>by
    obtain ⟨_,t,p,a⟩:=hg
    refine (Tryz.strconv_ParseInt_10_at64_range s hs h _ w (hw 1 0 _ a) (.inr ⟨_,_,rfl⟩)).mono ?_
    rintro e w' ⟨N,rfl,_,_,hb⟩
    exact ⟨_,rfl,hb⟩)
noncomputable def P5:=spA false [] 76 1 Tryz.f76 ⟨[(0,.int .u8)],[]⟩ [(.ret,⟨[(0,.bool)],[]⟩)] (hfind [(3,.cut [(.normal,⟨[(2,.bool)],[]⟩)])])
theorem K5:P5.OK Tryz.prog:=kA zi (by kernel_rfl)
noncomputable def P6:=spA false [P4,P5] 75 2 Tryz.f75 ⟨[(0,.str),(1,ii),(2,ii)],[]⟩ [(.ret,⟨[(0,.val 151),(1,ii)],[]⟩)] (hfind [(5,.cut [(.normal,⟨[(0,.str),(1,ii),(2,ii),(6,.pc 0 0),(8,.str),(9,ii),(10,.nili)],[c40]⟩),(.normal,⟨[(0,.str),(1,ii),(2,ii),(6,.pc 0 0),(8,.str),(9,ii),(10,.ifc 289 (.und))],[c40]⟩)])])
theorem K6:P6.OK Tryz.prog:=kA (za K4 (za K5 zi)) (by kernel_rfl)
noncomputable def P7:=spA false [P5,P2] 78 1 Tryz.f78 ⟨[(0,.int .u8)],[]⟩ [(.ret,⟨[(0,.bool)],[]⟩)] (hfind [(3,.cut [(.normal,⟨[(2,.bool)],[]⟩)])])
theorem K7:P7.OK Tryz.prog:=kA (za K5 (za K2 zi)) (by kernel_rfl)
noncomputable def P8:=spA false [P7] 72 1 Tryz.f72 ⟨[(0,.str),(1,ii),(2,.clo 78 [])],[]⟩ [(.ret,⟨[(0,ii)],[]⟩)] (hfind [(4,.loop ⟨[(0,.str),(1,ii),(2,.clo 78 [])],[]⟩ [(.exit 0,⟨[(1,ii)],[]⟩)]),(7,.cut [(.normal,⟨[(0,.str),(1,ii),(2,.clo 78 []),(17,.bool)],[]⟩)])])
theorem K8:P8.OK Tryz.prog:=kA (za K7 zi) (by kernel_rfl)
noncomputable def P9:=spA false [] 128 1 Tryz.f128 ⟨[(0,.str)],[]⟩ [(.ret,⟨[(0,.bool)],[]⟩)] (hfind [(9,.cut [(.normal,⟨[(4,.bool)],[]⟩)]),(13,.cut [(.normal,⟨[(4,.bool)],[]⟩)]),(17,.cut [(.normal,⟨[(4,.bool)],[]⟩)]),(21,.cut [(.normal,⟨[(4,.bool)],[]⟩)]),(25,.cut [(.normal,⟨[(4,.bool)],[]⟩)]),(29,.cut [(.normal,⟨[(4,.bool)],[]⟩)]),(33,.cut [(.normal,⟨[(4,.bool)],[]⟩)]),(37,.cut [(.normal,⟨[(4,.bool)],[]⟩)]),(41,.cut [(.normal,⟨[(4,.bool)],[]⟩)]),(45,.cut [(.normal,⟨[(4,.bool)],[]⟩)]),(49,.cut [(.normal,⟨[(4,.bool)],[]⟩)]),(53,.cut [(.normal,⟨[(4,.bool)],[]⟩)]),(57,.cut [(.normal,⟨[(4,.bool)],[]⟩)]),(61,.cut [(.normal,⟨[(4,.bool)],[]⟩)]),(65,.cut [(.normal,⟨[(4,.bool)],[]⟩)]),(69,.cut [(.normal,⟨[(4,.bool)],[]⟩)]),(73,.cut [(.normal,⟨[(4,.bool)],[]⟩)]),(77,.cut [(.normal,⟨[(4,.bool)],[]⟩)]),(81,.cut [(.normal,⟨[(4,.bool)],[]⟩)])])
theorem K9:P9.OK Tryz.prog:=kA zi (by kernel_rfl)
noncomputable def P10:=spA false [P9] 77 2 Tryz.f77 ⟨[(0,.str),(1,ii),(2,ii)],[]⟩ [(.ret,⟨[(0,.val 151),(1,ii)],[]⟩)] (hfind [(15,.cut [(.normal,⟨[(6,.pc 0 0),(8,.pc 1 0)],[c40,c40]⟩)])])
theorem K10:P10.OK Tryz.prog:=kA (za K9 zi) (by kernel_rfl)
noncomputable def P11:=spA false [] 165 1 Tryz.f165 ⟨[(0,.str),(1,.str)],[]⟩ [(.ret,⟨[(0,.bool)],[]⟩)] (hfind [(3,.cut [(.normal,⟨[(4,.bool)],[]⟩)])])
theorem K11:P11.OK Tryz.prog:=kA zi (by kernel_rfl)
noncomputable def P12:=spA false [P11] 129 1 Tryz.f129 ⟨[(0,.str),(1,.str)],[]⟩ [(.ret,⟨[(0,.bool)],[]⟩)] (hfind [])
theorem K12:P12.OK Tryz.prog:=kA (za K11 zi) (by kernel_rfl)
def I13:Sig:=⟨[(0,.str),(1,.int .u8)],[]⟩
def O13:List (XK×Sig):=[(.ret,⟨[(0,ii)],[]⟩)]
def F13 (x:I13.ty CC):Option (zk CC O13):=zcD x
def P13:Spec CC:=⟨130,1,I13,O13,F13⟩
theorem K13:P13.OK Tryz.prog:=zfw (fn:=Tryz.f130) (by kernel_rfl) (by kernel_rfl) (by kernel_rfl) fun s c w=>Tryz.strings_IndexByte s c w
noncomputable def P14:=spA false [P12,P13] 79 1 Tryz.f79 ⟨[(0,.str)],[]⟩ [(.ret,⟨[(0,.str)],[]⟩)] (hfind [(6,.loop ⟨[(0,.str),(5,.agg [.str,.str,.str]),(6,ii)],[]⟩ [(.ret,⟨[(2,.str)],[]⟩),(.exit 0,⟨[(0,.str)],[]⟩)])])
theorem K14:P14.OK Tryz.prog:=kA (za K12 (za K13 zi)) (by kernel_rfl)
noncomputable def P15:=spA false [P1,P2,P3,P6,P5,P8,P10,P14] 43 3 Tryz.f43 ⟨[(0,.str)],[]⟩ [(.ret,⟨[(0,.row 0),(1,ii),(2,ii)],[.row 151]⟩)] (hfind [(2,.cut [(.ret,⟨[(2,.row 0),(3,ii),(4,ii)],[.row 151]⟩)]),(19,.loop ⟨[(0,.str),(5,.row 0),(6,ii)],[.row 151]⟩ [(.ret,⟨[(2,.nils),(3,ii),(4,ii)],[]⟩),(.exit 0,⟨[(0,.str),(5,.row 0)],[.row 151]⟩)]),(26,.cut [(.normal,⟨[(0,.str),(5,.row 0),(6,ii)],[.row 151]⟩),(.ret,⟨[(2,.nils),(3,ii),(4,ii)],[]⟩)]),(36,.cut [(.normal,⟨[(0,.str),(5,.row 0),(6,ii),(7,.pc 1 0),(8,ii),(9,.int .u8),(29,.bool)],[.row 151,c40]⟩)]),(37,.cut [(.exit 1,⟨[(0,.str),(5,.row 0),(6,ii)],[.row 151]⟩),(.normal,⟨[(0,.str),(5,.row 0),(6,ii),(7,.pc 1 0),(8,ii)],[.row 151,c40]⟩)]),(49,.cut [(.normal,⟨[(0,.str),(5,.row 0),(6,ii),(7,.pc 1 0),(8,ii)],[.row 151,c40]⟩)]),(53,.cut [(.normal,⟨[(0,.str),(5,.row 0),(6,ii),(7,.pc 1 0),(8,ii)],[.row 151,c40]⟩)]),(59,.cut [(.normal,⟨[(0,.str),(5,.row 0),(6,ii),(7,.pc 1 0),(8,ii)],[.row 151,c40]⟩)])])
theorem K15:P15.OK Tryz.prog:=kA (za K1 (za K2 (za K3 (za K6 (za K5 (za K8 (za K10 (za K14 zi)))))))) (by kernel_rfl)
noncomputable def P16:=spA false [] 45 1 Tryz.f45 ⟨[(0,.pc 0 0)],[c2]⟩ [(.ret,⟨[(0,.val 151)],[c2]⟩)] (hfind [])
theorem K16:P16.OK Tryz.prog:=kA zi (by kernel_rfl)
noncomputable def P17:=spA false [P16] 80 1 Tryz.f80 ⟨[(0,.pc 0 0),(1,.str)],[c2]⟩ [(.ret,⟨[(0,.bool)],[c2]⟩)] (hfind [(5,.cut [(.normal,⟨[(4,.bool)],[c2]⟩)])])
theorem K17:P17.OK Tryz.prog:=kA (za K16 zi) (by kernel_rfl)
noncomputable def P18:=spA false [P17] 46 1 Tryz.f46 ⟨[(0,.pc 0 0),(1,.str)],[c2]⟩ [(.ret,⟨[(0,.bool)],[c2]⟩)] (hfind [])
theorem K18:P18.OK Tryz.prog:=kA (za K17 zi) (by kernel_rfl)
noncomputable def P19:=spA false [P16] 84 0 Tryz.f84 ⟨[(0,.pc 0 0),(1,ii)],[c2]⟩ [(.pan (.ifc 144 (.agg [ii,ii])),⟨[],[c2]⟩)] (hfind [])
theorem K19:P19.OK Tryz.prog:=kA (za K16 zi) (by kernel_rfl)
noncomputable def P20:=spA false [P16,P19] 131 1 Tryz.f131 ⟨[(0,.pc 0 0),(1,ii)],[c2]⟩ [(.pan (.ifc 144 (.agg [ii,ii])),⟨[],[c2]⟩),(.ret,⟨[(0,.val 151)],[c2]⟩)] (hfind [])
theorem K20:P20.OK Tryz.prog:=kA (za K16 (za K19 zi)) (by kernel_rfl)
noncomputable def P21:=spA false [P20] 81 1 Tryz.f81 ⟨[(0,.pc 0 0)],[c2]⟩ [(.pan (.ifc 144 (.agg [ii,ii])),⟨[],[c2]⟩),(.ret,⟨[(0,.agg [ii,.str,ii,ii,.nils])],[c2]⟩)] (hfind [])
theorem K21:P21.OK Tryz.prog:=kA (za K20 zi) (by kernel_rfl)
noncomputable def P22:=spA false [P18,P19] 48 0 Tryz.f48 ⟨[(0,.pc 0 0),(1,.str)],[c2]⟩ [(.pan (.ifc 144 (.agg [ii,ii])),⟨[],[c2]⟩),(.ret,⟨[],[c2]⟩)] (hfind [])
theorem K22:P22.OK Tryz.prog:=kA (za K18 (za K19 zi)) (by kernel_rfl)
noncomputable def P23:=spA false [P16,P18,P22,P21] 85 1 Tryz.f85 ⟨[(0,.pc 0 0)],[c2]⟩ [(.ret,⟨[(0,.val 112)],[c2]⟩),(.pan (.ifc 144 (.agg [ii,ii])),⟨[],[c2]⟩)] (hfind [(14,.cut [(.normal,⟨[(0,.pc 0 0),(2,.pc 1 0),(3,.pc 2 0)],[c2,c1,c1]⟩),(.pan (.ifc 144 (.agg [ii,ii])),⟨[],[c2]⟩)]),(20,.cut [(.normal,⟨[(0,.pc 0 0),(2,.pc 1 0),(3,.pc 2 0)],[c2,c1,c1]⟩)])])
theorem K23:P23.OK Tryz.prog:=kA (za K16 (za K18 (za K22 (za K21 zi)))) (by kernel_rfl)
noncomputable def P24:=spA false [P21,P22,P23] 83 1 Tryz.f83 ⟨[(0,.pc 0 0)],[c2]⟩ [(.pan (.ifc 144 (.agg [ii,ii])),⟨[],[c2]⟩),(.ret,⟨[(0,.agg [ii,.str,ii,ii,.row 1])],[c2,.row 112]⟩)] (hfind [])
theorem K24:P24.OK Tryz.prog:=kA (za K21 (za K22 (za K23 zi))) (by kernel_rfl)
noncomputable def P25:=spA false [P24,P18] 82 1 Tryz.f82 ⟨[(0,.pc 0 0),(1,.clo 83 [.tup [.pc 0 0]])],[c2]⟩ [(.pan (.ifc 144 (.agg [ii,ii])),⟨[],[c2]⟩),(.ret,⟨[(0,.row 1)],[c2,.row 112]⟩)] (hfind [(6,.loop ⟨[(0,.pc 0 0),(1,.clo 83 [.tup [.pc 0 0]]),(5,.row 1)],[c2,.row 112]⟩ [(.pan (.ifc 144 (.agg [ii,ii])),⟨[],[c2]⟩),(.exit 0,⟨[(5,.row 1)],[c2,.row 112]⟩)])])
theorem K25:P25.OK Tryz.prog:=kA (za K24 (za K18 zi)) (by kernel_rfl)
noncomputable def P26:=spA false [] 167 1 Tryz.f167 ⟨[(0,.val 112),(1,.pc 0 0)],[c11]⟩ [(.ret,⟨[(0,.val 112)],[c11]⟩)] (hfind [])
theorem K26:P26.OK Tryz.prog:=kA zi (by kernel_rfl)
noncomputable def P27:=spA false [P22] 168 1 Tryz.f168 ⟨[(0,.pc 0 0),(1,.val 112)],[c2]⟩ [(.pan (.ifc 144 (.agg [ii,ii])),⟨[],[c2]⟩),(.ret,⟨[(0,.val 112)],[c2]⟩)] (hfind [])
theorem K27:P27.OK Tryz.prog:=kA (za K22 zi) (by kernel_rfl)
noncomputable def P28:=spA false [P20] 173 1 Tryz.f173 ⟨[(0,.pc 0 0),(1,ii)],[c2]⟩ [(.pan (.ifc 144 (.agg [ii,ii])),⟨[],[c2]⟩),(.ret,⟨[(0,ii)],[c2]⟩)] (hfind [])
theorem K28:P28.OK Tryz.prog:=kA (za K20 zi) (by kernel_rfl)
noncomputable def P29:=spA false [P21,P22,P28] 169 1 Tryz.f169 ⟨[(0,.pc 0 0),(1,ii)],[c2]⟩ [(.pan (.ifc 144 (.agg [ii,ii])),⟨[],[c2]⟩),(.ret,⟨[(0,.agg [ii,.str,ii,ii,.nils])],[c2]⟩)] (hfind [])
theorem K29:P29.OK Tryz.prog:=kA (za K21 (za K22 (za K28 zi))) (by kernel_rfl)
noncomputable def P30:=spA false [P18,P28] 174 1 Tryz.f174 ⟨[(0,.pc 0 0),(1,.val 112)],[c2]⟩ [(.pan (.ifc 144 (.agg [ii,ii])),⟨[],[c2]⟩),(.ret,⟨[(0,.val 112)],[c2]⟩)] (hfind [(6,.cut [(.pan (.ifc 144 (.agg [ii,ii])),⟨[],[c2]⟩),(.normal,⟨[(3,.pc 1 0),(4,.pc 2 0)],[c2,c6,c1]⟩)]),(10,.cut [(.pan (.ifc 144 (.agg [ii,ii])),⟨[],[c2]⟩),(.normal,⟨[(3,.pc 1 0),(4,.pc 2 0)],[c2,c6,c1]⟩)])])
theorem K30:P30.OK Tryz.prog:=kA (za K18 (za K28 zi)) (by kernel_rfl)
noncomputable def P31:=spA false [P16,P28,P18,P21,P30] 133 1 Tryz.f133 ⟨[(0,.pc 0 0)],[c2]⟩ [(.pan (.ifc 144 (.agg [ii,ii])),⟨[],[c2]⟩),(.ret,⟨[(0,.val 112)],[c2]⟩)] (hfind [(8,.cut [(.pan (.ifc 144 (.agg [ii,ii])),⟨[],[c2]⟩),(.ret,⟨[(2,.pc 1 0)],[c2,c1]⟩),(.normal,⟨[(0,.pc 0 0),(2,.pc 1 0)],[c2,c1]⟩)]),(20,.cut [(.pan (.ifc 144 (.agg [ii,ii])),⟨[],[c2]⟩),(.normal,⟨[(2,.pc 1 0)],[c2,c6]⟩)])])
theorem K31:P31.OK Tryz.prog:=kA (za K16 (za K28 (za K18 (za K21 (za K30 zi))))) (by kernel_rfl)
noncomputable def P32:=spA false [P18,P19] 134 1 Tryz.f134 ⟨[(0,.pc 0 0)],[c2]⟩ [(.ret,⟨[(0,.str)],[c2]⟩),(.pan (.ifc 144 (.agg [ii,ii])),⟨[],[c2]⟩)] (hfind [(6,.loop ⟨[(0,.pc 0 0),(5,.agg [.str,.str,.str]),(6,ii)],[c2]⟩ [(.ret,⟨[(2,.str)],[c2]⟩),(.exit 0,⟨[(0,.pc 0 0)],[c2]⟩)])])
theorem K32:P32.OK Tryz.prog:=kA (za K18 (za K19 zi)) (by kernel_rfl)
noncomputable def P33:=spA false [P31,P32] 89 1 Tryz.f89 ⟨[(0,.pc 0 0)],[c2]⟩ [(.pan (.ifc 144 (.agg [ii,ii])),⟨[],[c2]⟩),(.ret,⟨[(0,.agg [ii,.str,ii,ii,.row 1])],[c2,.row 112]⟩)] (hfind [(7,.draw (od [1,3,5,7,9,10,12,15,16]) [])])
theorem K33:P33.OK Tryz.prog:=kA (za K31 (za K32 zi)) (by kernel_rfl)
noncomputable def P34:=spA false [P31,P18] 82 1 Tryz.f82 ⟨[(0,.pc 0 0),(1,.clo 133 [.tup [.pc 0 0]])],[c2]⟩ [(.pan (.ifc 144 (.agg [ii,ii])),⟨[],[c2]⟩),(.ret,⟨[(0,.row 1)],[c2,.row 112]⟩)] (hfind [(6,.loop ⟨[(0,.pc 0 0),(1,.clo 133 [.tup [.pc 0 0]]),(5,.row 1)],[c2,.row 112]⟩ [(.pan (.ifc 144 (.agg [ii,ii])),⟨[],[c2]⟩),(.exit 0,⟨[(5,.row 1)],[c2,.row 112]⟩)])])
theorem K34:P34.OK Tryz.prog:=kA (za K31 (za K18 zi)) (by kernel_rfl)
noncomputable def P35:=spA false [P22,P18,P34] 171 1 Tryz.f171 ⟨[(0,.pc 0 0)],[c2]⟩ [(.pan (.ifc 144 (.agg [ii,ii])),⟨[],[c2]⟩),(.ret,⟨[(0,.row 1)],[c2,.row 112]⟩)] (hfind [])
theorem K35:P35.OK Tryz.prog:=kA (za K22 (za K18 (za K34 zi))) (by kernel_rfl)
def I36:Sig:=⟨[(0,.pc 0 0)],[c2]⟩
def O36:List (XK×Sig):=[(.pan (.ifc 144 (.agg [ii,ii])),⟨[],[c2]⟩),(.ret,⟨[(0,.val 112)],[c2]⟩)]
def H36:Nat→Option Hint:=hfind [(8,.cut [(.pan (.ifc 144 (.agg [ii,ii])),⟨[],[c2]⟩),(.ret,⟨[(2,.pc 1 0)],[c2,c6]⟩),(.normal,⟨[(0,.pc 0 0),(2,.pc 1 0),(3,.pc 2 0)],[c2,c1,c1]⟩)]),(16,.cut [(.pan (.ifc 144 (.agg [ii,ii])),⟨[],[c2]⟩),(.ret,⟨[(2,.pc 1 0)],[c2,c6]⟩),(.normal,⟨[(0,.pc 0 0),(2,.pc 1 0),(3,.pc 2 0)],[c2,c1,c1]⟩)]),(24,.cut [(.pan (.ifc 144 (.agg [ii,ii])),⟨[],[c2]⟩),(.ret,⟨[(2,.pc 1 0)],[c2,c6]⟩),(.normal,⟨[(0,.pc 0 0),(2,.pc 1 0),(3,.pc 2 0)],[c2,c1,c1]⟩)]),(30,.cut [(.normal,⟨[(0,.pc 0 0),(2,.pc 1 0),(3,.pc 2 0)],[c2,c1,c1]⟩)]),(51,.cut [(.pan (.ifc 144 (.agg [ii,ii])),⟨[],[c2]⟩),(.ret,⟨[(2,.pc 1 0)],[c2,c36,.row 112]⟩),(.normal,⟨[(0,.pc 0 0),(2,.pc 1 0),(3,.pc 2 0)],[c2,c1,c1]⟩)]),(59,.cut [(.pan (.ifc 144 (.agg [ii,ii])),⟨[],[c2]⟩),(.ret,⟨[(2,.pc 1 0)],[c2,c36,.row 112]⟩),(.normal,⟨[(0,.pc 0 0),(2,.pc 1 0),(3,.pc 2 0)],[c2,c1,c1]⟩)]),(69,.cut [(.pan (.ifc 144 (.agg [ii,ii])),⟨[],[c2]⟩),(.ret,⟨[(2,.pc 1 0)],[c2,c36,.row 112]⟩),(.normal,⟨[(0,.pc 0 0),(2,.pc 1 0),(3,.pc 2 0)],[c2,c1,c1]⟩)]),(70,.loop ⟨[(0,.pc 0 0),(2,.pc 1 0),(3,.pc 2 0),(69,.pc 3 0)],[c2,c1,c1,.cell []]⟩ []),(83,.cut [(.normal,⟨[(0,.pc 0 0),(2,.pc 1 0),(3,.pc 2 0),(4,.str),(5,ii),(69,.pc 3 0),(87,.bool)],[c2,c1,c1,.cell []]⟩)]),(84,.cut [(.pan (.ifc 144 (.agg [ii,ii])),⟨[],[c2,c1,c1,.cell []]⟩),(.ret,⟨[(2,.pc 1 0)],[c2,c8,c1,.cell [],.row 112]⟩),(.normal,⟨[(0,.pc 0 0),(2,.pc 1 0),(3,.pc 2 0),(69,.pc 3 0)],[c2,c1,c1,.cell []]⟩)]),(88,.draw (od [1,3,5,7,9,10,12,15,16]) [])]
noncomputable def F36 (x:I36.ty CC):Option (zk CC O36):=zkh ⟨false⟩ [P16,P18,P28,P21,P31,P17,P35,P22,P30] lpO Tryz.prog Tryz.f188 1 I36 O36 H36 x
noncomputable def P36:Spec CC:=⟨188,1,I36,O36,F36⟩
theorem K36:Spec.OK Tryz.prog P36:=zrD (za K16 (za K18 (za K28 (za K21 (za K31 (za K17 (za K35 (za K22 (za K30 zi))))))))) ZF ZE H36 (by kernel_rfl) (by kernel_rfl) (by kernel_rfl) fun x=>rfl
noncomputable def P37:=spA false [P17,P35,P18,P31,P22,P36] 172 1 Tryz.f172 ⟨[(0,.pc 0 0),(1,.val 112)],[c2]⟩ [(.pan (.ifc 144 (.agg [ii,ii])),⟨[],[c2]⟩),(.ret,⟨[(0,.agg [ii,.str,ii,ii,.row 1])],[c2,.row 112]⟩)] (hfind [(6,.cut [(.pan (.ifc 144 (.agg [ii,ii])),⟨[],[c2]⟩),(.ret,⟨[(4,.pc 1 0)],[c2,c36,.row 112]⟩),(.normal,⟨[(0,.pc 0 0),(3,.pc 1 0),(4,.pc 2 0)],[c2,c6,c1]⟩)]),(16,.cut [(.pan (.ifc 144 (.agg [ii,ii])),⟨[],[c2]⟩),(.ret,⟨[(4,.pc 1 0)],[c2,c36,.row 112]⟩),(.normal,⟨[(0,.pc 0 0),(3,.pc 1 0),(4,.pc 2 0)],[c2,c6,c1]⟩)]),(24,.draw (od [1,3,5,6,8,10,13,14]) [])])
theorem K37:P37.OK Tryz.prog:=kA (za K17 (za K35 (za K18 (za K31 (za K22 (za K36 zi)))))) (by kernel_rfl)
def I38:Sig:=⟨[(0,.pc 0 0),(1,ii),(2,ii)],[c2]⟩
def O38:List (XK×Sig):=[(.pan (.ifc 144 (.agg [ii,ii])),⟨[],[c2]⟩),(.ret,⟨[(0,.agg [ii,.str,ii,ii,.row 1])],[c2,.row 112]⟩)]
def H38:Nat→Option Hint:=hfind [(7,.draw (od [1,3,5,6,8,10,13,14]) [])]
def I39:Sig:=⟨[(0,.pc 0 0)],[c2]⟩
def O39:List (XK×Sig):=[(.pan (.ifc 144 (.agg [ii,ii])),⟨[],[c2]⟩),(.ret,⟨[(0,.val 112)],[c2]⟩)]
def H39:Nat→Option Hint:=hfind [(10,.cut [(.pan (.ifc 144 (.agg [ii,ii])),⟨[],[c2]⟩),(.ret,⟨[(2,.pc 1 0)],[c2,c6]⟩),(.normal,⟨[(0,.pc 0 0),(2,.pc 1 0)],[c2,c1]⟩)]),(20,.cut [(.pan (.ifc 144 (.agg [ii,ii])),⟨[],[c2]⟩),(.ret,⟨[(2,.pc 1 0)],[c2,c6]⟩),(.normal,⟨[(0,.pc 0 0),(2,.pc 1 0)],[c2,c1]⟩)]),(22,.cut [(.pan (.ifc 144 (.agg [ii,ii])),⟨[],[c2]⟩),(.normal,⟨[(2,.pc 1 0)],[c2,c6]⟩)]),(26,.cut [(.pan (.ifc 144 (.agg [ii,ii])),⟨[],[c2]⟩),(.ret,⟨[(2,.pc 1 0)],[c2,c6]⟩),(.normal,⟨[(0,.pc 0 0),(2,.pc 1 0)],[c2,c1]⟩)]),(28,.cut [(.pan (.ifc 144 (.agg [ii,ii])),⟨[],[c2]⟩),(.normal,⟨[(2,.pc 1 0)],[c2,c6]⟩)]),(32,.cut [(.pan (.ifc 144 (.agg [ii,ii])),⟨[],[c2]⟩),(.ret,⟨[(2,.pc 1 0)],[c2,c6]⟩),(.normal,⟨[(0,.pc 0 0),(2,.pc 1 0)],[c2,c1]⟩)]),(38,.cut [(.pan (.ifc 144 (.agg [ii,ii])),⟨[],[c2]⟩),(.normal,⟨[(2,.pc 1 0),(6,.pc 2 0)],[c2,c1,c18,.row 112]⟩)]),(39,.draw (od [1,3,5,6,8,10,13,14]) []),(46,.cut [(.pan (.ifc 144 (.agg [ii,ii])),⟨[],[c2]⟩),(.ret,⟨[(2,.pc 1 0)],[c2,c6]⟩),(.normal,⟨[(0,.pc 0 0),(2,.pc 1 0)],[c2,c1]⟩)]),(52,.cut [(.pan (.ifc 144 (.agg [ii,ii])),⟨[],[c2]⟩),(.ret,⟨[(2,.pc 1 0)],[c2,c6]⟩),(.normal,⟨[(0,.pc 0 0),(2,.pc 1 0)],[c2,c1]⟩)]),(58,.cut [(.pan (.ifc 144 (.agg [ii,ii])),⟨[],[c2]⟩),(.normal,⟨[(0,.pc 0 0),(2,.pc 1 0),(7,.pc 2 0)],[c2,c1,c18,.row 112]⟩)]),(66,.cut [(.pan (.ifc 144 (.agg [ii,ii])),⟨[],[c2]⟩),(.ret,⟨[(2,.pc 1 0)],[c2,c6]⟩),(.normal,⟨[(0,.pc 0 0),(2,.pc 1 0)],[c2,c1]⟩)]),(72,.cut [(.pan (.ifc 144 (.agg [ii,ii])),⟨[],[c2]⟩),(.ret,⟨[(2,.pc 1 0)],[c2,c6]⟩),(.normal,⟨[(0,.pc 0 0),(2,.pc 1 0)],[c2,c1]⟩)]),(82,.cut [(.pan (.ifc 144 (.agg [ii,ii])),⟨[],[c2]⟩),(.normal,⟨[(2,.pc 1 0)],[c2,c6]⟩)])]
def I40:Sig:=⟨[(0,.pc 0 0)],[c2]⟩
def O40:List (XK×Sig):=[(.pan (.ifc 144 (.agg [ii,ii])),⟨[],[c2]⟩),(.ret,⟨[(0,.agg [ii,.str,ii,ii,.row 1])],[c2,.row 112]⟩)]
def H40:Nat→Option Hint:=hfind [(6,.cut [(.normal,⟨[(0,.pc 0 0),(2,.pc 1 0),(3,.pc 2 0),(16,.bool)],[c2,c1,c1]⟩)]),(16,.loop ⟨[(0,.pc 0 0),(2,.pc 1 0),(3,.pc 2 0)],[c2,c1,c18,.row 112]⟩ [(.pan (.ifc 144 (.agg [ii,ii])),⟨[],[c2]⟩),(.exit 0,⟨[(0,.pc 0 0),(2,.pc 1 0),(3,.pc 2 0)],[c2,c1,c18,.row 112]⟩)]),(24,.draw (od [1,3,5,6,8,10,13,14]) [])]
noncomputable def zfG (h:I40.ty CC→Option (zk CC O40)):Spec CC:=⟨86,1,I40,O40,h⟩
noncomputable def zog (h:I40.ty CC→Option (zk CC O40)) (x:I38.ty CC):Option (zk CC O38):=wT ⟨false⟩ [P33,zfG h] lpO Tryz.prog Tryz.f170 1 I38 O38 H38 x
noncomputable def zr7 (h:I40.ty CC→Option (zk CC O40)):Spec CC:=⟨170,1,I38,O38,zog h⟩
theorem ztZ {h:I40.ty CC→Option (zk CC O40)}(hh:Spec.OK Tryz.prog (zfG h)):Spec.OK Tryz.prog (zr7 h):=yM (za K33 (za hh zi)) ZF ZE H38 (by kernel_rfl) (by kernel_rfl) (by kernel_rfl) fun x=>rfl
noncomputable def zoh (h:I40.ty CC→Option (zk CC O40)) (x:I39.ty CC):Option (zk CC O39):=wT ⟨false⟩ [P16,P18,P21,P26,P27,P29,zr7 h,zfG h,P17,P31,P35,P37] lpO Tryz.prog Tryz.f132 1 I39 O39 H39 x
noncomputable def zr8 (h:I40.ty CC→Option (zk CC O40)):Spec CC:=⟨132,1,I39,O39,zoh h⟩
theorem zt0 {h:I40.ty CC→Option (zk CC O40)}(hh:Spec.OK Tryz.prog (zfG h)):Spec.OK Tryz.prog (zr8 h):=yM (za K16 (za K18 (za K21 (za K26 (za K27 (za K29 (za (ztZ hh) (za hh (za K17 (za K31 (za K35 (za K37 zi)))))))))))) ZF ZE H39 (by kernel_rfl) (by kernel_rfl) (by kernel_rfl) fun x=>rfl
noncomputable def zoi (h:I40.ty CC→Option (zk CC O40)) (x:I40.ty CC):Option (zk CC O40):=wT ⟨false⟩ [P16,P17,P19,P22,P18,zr8 h] lpO Tryz.prog Tryz.f86 1 I40 O40 H40 x
noncomputable def zt1 (h:I40.ty CC→Option (zk CC O40)):Spec CC:=⟨86,1,I40,O40,zoi h⟩
theorem zt2 {h:I40.ty CC→Option (zk CC O40)}(hh:Spec.OK Tryz.prog (zfG h)):Spec.OK Tryz.prog (zt1 h):=yM (za K16 (za K17 (za K19 (za K22 (za K18 (za (zt0 hh) zi)))))) ZF ZE H40 (by kernel_rfl) (by kernel_rfl) (by kernel_rfl) fun x=>rfl
noncomputable def zfH:Nat→I40.ty CC→Option (zk CC O40)
  |0=>fun _=>none
  |k+1=>zoi (zfH k)
theorem zr9:∀ k,Spec.OK Tryz.prog (zfG (zfH k))
  |0=>⟨Tryz.f86,by kernel_rfl,by kernel_rfl,by kernel_rfl,fun x r h=>by cases h⟩
  |k+1=>zt2 (zr9 k)
noncomputable def F38 (x:I38.ty CC):Option (zk CC O38):=zog (zfH 100000) x
noncomputable def F39 (x:I39.ty CC):Option (zk CC O39):=zoh (zfH 100000) x
noncomputable def F40 (x:I40.ty CC):Option (zk CC O40):=zfH 100000 x
noncomputable def P40:Spec CC:=⟨86,1,I40,O40,F40⟩
theorem K40:Spec.OK Tryz.prog P40:=zr9 100000
noncomputable def P41:=spA false [P21,P22,P17,P25,P18,P19,P23,P16,P40] 47 1 Tryz.f47 ⟨[(0,.pc 0 0),(1,ii)],[c2]⟩ [(.pan (.ifc 144 (.agg [ii,ii])),⟨[],[c2]⟩),(.ret,⟨[(0,.agg [ii,.str,ii,ii,.row 1])],[c2,.row 112]⟩)] (hfind [(11,.cut [(.pan (.ifc 144 (.agg [ii,ii])),⟨[],[c2]⟩),(.normal,⟨[(0,.pc 0 0),(4,.pc 1 0),(5,.pc 2 0)],[c2,c1,c18,.row 112]⟩)]),(21,.cut [(.pan (.ifc 144 (.agg [ii,ii])),⟨[],[c2]⟩),(.normal,⟨[(0,.pc 0 0),(4,.pc 1 0),(5,.pc 2 0),(6,.pc 3 0)],[c2,c1,c8,c6,.row 112]⟩)]),(31,.draw (od [1,3,5,7,8,10,12,15,16]) [])])
theorem K41:P41.OK Tryz.prog:=kA (za K21 (za K22 (za K17 (za K25 (za K18 (za K19 (za K23 (za K16 (za K40 zi))))))))) (by kernel_rfl)
noncomputable def P42:=spA false [P16,P18,P21,P19] 87 1 Tryz.f87 ⟨[(0,.pc 0 0)],[c2]⟩ [(.ret,⟨[(0,.agg [ii,.str,ii,ii,.row 1])],[c2,.row 112]⟩),(.pan (.ifc 144 (.agg [ii,ii])),⟨[],[c2]⟩)] (hfind [(9,.cut [(.normal,⟨[(0,.pc 0 0),(2,.pc 1 0),(3,.pc 2 0),(13,.bool)],[c2,c1,c1]⟩)]),(12,.cut [(.normal,⟨[(2,.pc 1 0),(3,.pc 2 0)],[c2,c1,c18,.row 112]⟩),(.pan (.ifc 144 (.agg [ii,ii])),⟨[],[c2]⟩)]),(17,.cut [(.normal,⟨[(0,.pc 0 0),(2,.pc 1 0),(3,.pc 2 0),(18,.bool)],[c2,c1,c1]⟩)]),(21,.cut [(.normal,⟨[(0,.pc 0 0),(2,.pc 1 0),(3,.pc 2 0),(18,.bool)],[c2,c1,c1]⟩)]),(24,.cut [(.pan (.ifc 144 (.agg [ii,ii])),⟨[],[c2]⟩),(.normal,⟨[(2,.pc 1 0),(3,.pc 2 0)],[c2,c1,c18,.row 112]⟩)])])
theorem K42:P42.OK Tryz.prog:=kA (za K16 (za K18 (za K21 (za K19 zi)))) (by kernel_rfl)
noncomputable def P43:=spA false [P21,P18,P22] 88 1 Tryz.f88 ⟨[(0,.pc 0 0)],[c2]⟩ [(.pan (.ifc 144 (.agg [ii,ii])),⟨[],[c2]⟩),(.ret,⟨[(0,.agg [ii,.str,ii,ii,.row 1])],[c2,.row 112]⟩)] (hfind [(9,.cut [(.pan (.ifc 144 (.agg [ii,ii])),⟨[],[c2]⟩),(.normal,⟨[(2,.pc 1 0),(3,.pc 2 0)],[c2,c1,c18,.row 112]⟩)])])
theorem K43:P43.OK Tryz.prog:=kA (za K21 (za K18 (za K22 zi))) (by kernel_rfl)
noncomputable def P44:=spA false [P43,P18] 82 1 Tryz.f82 ⟨[(0,.pc 0 0),(1,.clo 88 [.tup [.pc 0 0]])],[c2]⟩ [(.pan (.ifc 144 (.agg [ii,ii])),⟨[],[c2]⟩),(.ret,⟨[(0,.row 1)],[c2,.row 112]⟩)] (hfind [(6,.loop ⟨[(0,.pc 0 0),(1,.clo 88 [.tup [.pc 0 0]]),(5,.row 1)],[c2,.row 112]⟩ [(.pan (.ifc 144 (.agg [ii,ii])),⟨[],[c2]⟩),(.exit 0,⟨[(5,.row 1)],[c2,.row 112]⟩)])])
theorem K44:P44.OK Tryz.prog:=kA (za K43 (za K18 zi)) (by kernel_rfl)
noncomputable def P45:=spA false [P33,P18] 82 1 Tryz.f82 ⟨[(0,.pc 0 0),(1,.clo 89 [.tup [.pc 0 0]])],[c2]⟩ [(.pan (.ifc 144 (.agg [ii,ii])),⟨[],[c2]⟩),(.ret,⟨[(0,.row 1)],[c2,.row 112]⟩)] (hfind [(6,.loop ⟨[(0,.pc 0 0),(1,.clo 89 [.tup [.pc 0 0]]),(5,.row 1)],[c2,.row 112]⟩ [(.pan (.ifc 144 (.agg [ii,ii])),⟨[],[c2]⟩),(.exit 0,⟨[(5,.row 1)],[c2,.row 112]⟩)])])
theorem K45:P45.OK Tryz.prog:=kA (za K33 (za K18 zi)) (by kernel_rfl)
noncomputable def P46:=spA false [P21,P42,P18,P44,P22,P45] 49 1 Tryz.f49 ⟨[(0,.pc 0 0),(1,ii)],[c2]⟩ [(.pan (.ifc 144 (.agg [ii,ii])),⟨[],[c2]⟩),(.ret,⟨[(0,.agg [ii,.str,ii,ii,.row 1])],[c2,.row 112]⟩)] (hfind [(9,.cut [(.pan (.ifc 144 (.agg [ii,ii])),⟨[],[c2]⟩),(.normal,⟨[(0,.pc 0 0),(4,.pc 1 0),(5,.pc 2 0)],[c2,c1,c18,.row 112]⟩)]),(11,.draw (od [1,3,5,7,9,10,12,15,16]) []),(17,.cut [(.pan (.ifc 144 (.agg [ii,ii])),⟨[],[c2]⟩),(.normal,⟨[(0,.pc 0 0),(4,.pc 1 0),(5,.pc 2 0)],[c2,c1,c18,.row 112]⟩)]),(18,.draw (od [1,3,5,7,9,10,12,15,16]) [])])
theorem K46:P46.OK Tryz.prog:=kA (za K21 (za K42 (za K18 (za K44 (za K22 (za K45 zi)))))) (by kernel_rfl)
def I47:Sig:=⟨[(0,.val 112)],[]⟩
def O47:List (XK×Sig):=[(.ret,⟨[(0,ii)],[]⟩)]
def H47:Nat→Option Hint:=hfind [(8,.loop ⟨[(3,ii),(7,.sl 112),(8,ii),(9,ii)],[]⟩ [(.exit 0,⟨[(3,ii)],[]⟩)])]
noncomputable def zoj (h:I47.ty CC→Option (zk CC O47)):Spec CC:=⟨50,1,I47,O47,h⟩
noncomputable def zok (h:I47.ty CC→Option (zk CC O47)) (x:I47.ty CC):Option (zk CC O47):=wT ⟨false⟩ [zoj h] lpO Tryz.prog Tryz.f50 1 I47 O47 H47 x
noncomputable def zt3 (h:I47.ty CC→Option (zk CC O47)):Spec CC:=⟨50,1,I47,O47,zok h⟩
theorem zt4 {h:I47.ty CC→Option (zk CC O47)}(hh:Spec.OK Tryz.prog (zoj h)):Spec.OK Tryz.prog (zt3 h):=yM (za hh zi) ZF ZE H47 (by kernel_rfl) (by kernel_rfl) (by kernel_rfl) fun x=>rfl
noncomputable def zkq:Nat→I47.ty CC→Option (zk CC O47)
  |0=>fun _=>none
  |k+1=>zok (zkq k)
theorem zsa:∀ k,Spec.OK Tryz.prog (zoj (zkq k))
  |0=>⟨Tryz.f50,by kernel_rfl,by kernel_rfl,by kernel_rfl,fun x r h=>by cases h⟩
  |k+1=>zt4 (zsa k)
noncomputable def F47 (x:I47.ty CC):Option (zk CC O47):=zkq 100000 x
noncomputable def P47:Spec CC:=⟨50,1,I47,O47,F47⟩
theorem K47:Spec.OK Tryz.prog P47:=zsa 100000
def I48:Sig:=⟨[(0,.pc 0 0),(1,.pc 1 0),(2,.pc 2 0),(3,.ifc 144 (.agg [ii,ii]))],[c18,c11,c11,.row 112]⟩
def O48:List (XK×Sig):=[(.ret,⟨[],[c1,c11,c11,.row 112]⟩)]
def H48:Nat→Option Hint:=hfind [(5,.draw (od [1,3,5,7,9,10,12,14]) [])]
noncomputable def F48 (x:I48.ty CC):Option (zk CC O48):=zbt ⟨false⟩ [] lpO Tryz.prog Tryz.f44 0 I48 O48 H48 x
noncomputable def P48:Spec CC:=⟨44,0,I48,O48,F48⟩
theorem K48:Spec.OKD Tryz.prog P48:=Vj zi ZF ZE H48 (by kernel_rfl) (by kernel_rfl) (by kernel_rfl) fun x=>rfl
def I49:Sig:=⟨[(0,.pc 0 0),(1,.pc 1 0),(2,.pc 2 0),(3,.nili)],[c18,c11,c11,.row 112]⟩
def O49:List (XK×Sig):=[(.ret,⟨[],[c18,c11,c11,.row 112]⟩)]
def H49:Nat→Option Hint:=hfind []
noncomputable def F49 (x:I49.ty CC):Option (zk CC O49):=zbt ⟨false⟩ [] lpO Tryz.prog Tryz.f44 0 I49 O49 H49 x
noncomputable def P49:Spec CC:=⟨44,0,I49,O49,F49⟩
theorem K49:Spec.OKD Tryz.prog P49:=Vj zi ZF ZE H49 (by kernel_rfl) (by kernel_rfl) (by kernel_rfl) fun x=>rfl
def I50:Sig:=⟨[(0,.str)],[]⟩
def O50:List (XK×Sig):=[(.ret,⟨[(0,.val 112),(1,ii),(2,ii)],[]⟩)]
def H50:Nat→Option Hint:=hfind [(9,.draw (od [1,3,5,6,8,10]) []),(13,.loop ⟨[(2,.pc 0 0),(3,.pc 1 0),(4,.pc 2 0),(5,.sl 151),(19,.clo 44 [.pc 0 0,.pc 1 0,.pc 2 0])],[c1,c11,c11]⟩ []),(18,.loop ⟨[(2,.pc 0 0),(3,.pc 1 0),(4,.pc 2 0),(6,.pc 3 0)],[c8,c11,c11,c2,.row 112]⟩ [(.pan (.ifc 144 (.agg [ii,ii])),⟨[(2,.pc 0 0),(3,.pc 1 0),(4,.pc 2 0)],[c18,c11,c11,.row 112]⟩),(.exit 0,⟨[(2,.pc 0 0),(3,.pc 1 0),(4,.pc 2 0)],[c18,c11,c11,.row 112]⟩)]),(25,.cut [(.pan (.ifc 144 (.agg [ii,ii])),⟨[(2,.pc 0 0),(3,.pc 1 0),(4,.pc 2 0)],[c18,c11,c11,.row 112]⟩),(.normal,⟨[(2,.pc 0 0),(3,.pc 1 0),(4,.pc 2 0),(6,.pc 3 0)],[c8,c11,c11,c2,.row 112]⟩)]),(33,.draw (od [1,3,5,7,11,13,8,14,17,21,9366,22,18]) [(.pan (.ifc 144 (.agg [ii,ii])),⟨[(2,.pc 0 0),(3,.pc 1 0),(4,.pc 2 0)],[c18,c11,c11,.row 112]⟩),(.normal,⟨[(2,.pc 0 0),(3,.pc 1 0),(4,.pc 2 0),(6,.pc 3 0)],[c8,c11,c11,c2,.row 112]⟩)]),(38,.draw (od [1,3,5,7,11,13,8,14,17,21,9366,22,18]) [(.pan (.ifc 144 (.agg [ii,ii])),⟨[(2,.pc 0 0),(3,.pc 1 0),(4,.pc 2 0)],[c18,c11,c11,.row 112]⟩),(.normal,⟨[(2,.pc 0 0),(3,.pc 1 0),(4,.pc 2 0),(6,.pc 3 0)],[c8,c11,c11,c2,.row 112]⟩)])]
noncomputable def F50 (x:I50.ty CC):Option (zk CC O50):=zfy ⟨false⟩ [P15,P16,P18,P41,P22,P46,P47] (P49) (P48) lpO Tryz.prog Tryz.f28 3 I50 O50 H50 x
noncomputable def P50:Spec CC:=⟨28,3,I50,O50,F50⟩
theorem K50:Spec.OK Tryz.prog P50:=zfz (za K15 (za K16 (za K18 (za K41 (za K22 (za K46 (za K47 zi))))))) K49 K48 ZF ZE H50 (by kernel_rfl) (by kernel_rfl) (by kernel_rfl) fun x=>rfl
noncomputable def P51:=spA false [] 113 2 Tryz.f113 ⟨[(0,.val 112)],[]⟩ [(.ret,⟨[(0,.row 0),(1,.row 1)],[.row 112,.row 112]⟩)] (hfind [(6,.loop ⟨[(2,.row 0),(3,.row 1),(7,.sl 112),(8,ii),(9,ii)],[.row 112,.row 112]⟩ [(.exit 0,⟨[(2,.row 0),(3,.row 1)],[.row 112,.row 112]⟩)]),(22,.cut [(.normal,⟨[(2,.row 0),(3,.row 1),(7,.sl 112),(8,ii),(9,ii)],[.row 112,.row 112]⟩)]),(26,.cut [(.normal,⟨[(2,.row 0),(3,.row 1),(7,.sl 112),(8,ii),(9,ii)],[.row 112,.row 112]⟩)])])
theorem K51:P51.OK Tryz.prog:=kA zi (by kernel_rfl)
noncomputable def P52:=spA false [] 143 1 Tryz.f143 ⟨[(0,.val 65),(1,.pc 0 0)],[c20]⟩ [(.ret,⟨[(0,.bool)],[c20]⟩)] (hfind [])
theorem K52:P52.OK Tryz.prog:=kA zi (by kernel_rfl)
noncomputable def P53:=spA false [P52] 142 1 Tryz.f142 ⟨[(0,.sl 65),(1,.clo 143 [.pc 0 0])],[c20]⟩ [(.ret,⟨[(0,ii)],[c20]⟩)] (hfind [(6,.loop ⟨[(0,.sl 65),(1,.clo 143 [.pc 0 0]),(7,ii),(8,ii)],[c20]⟩ [(.ret,⟨[(4,ii)],[c20]⟩),(.exit 0,⟨[],[c20]⟩)])])
theorem K53:P53.OK Tryz.prog:=kA (za K52 zi) (by kernel_rfl)
noncomputable def P54:=spA false [P53] 100 1 Tryz.f100 ⟨[(0,.sl 65),(1,.str)],[]⟩ [(.ret,⟨[(0,ii)],[]⟩)] (hfind [])
theorem K54:P54.OK Tryz.prog:=kA (za K53 zi) (by kernel_rfl)
noncomputable def P55:=spA false [] 114 0 Tryz.f114 ⟨[(0,.bool),(1,.val 112),(2,ii)],[]⟩ [(.pan (.ifc 190 (.agg [ii,ii])),⟨[],[]⟩),(.ret,⟨[],[]⟩)] (hfind [])
theorem K55:P55.OK Tryz.prog:=kA zi (by kernel_rfl)
noncomputable def P56:=spA false [] 158 1 Tryz.f158 ⟨[(0,.val 112),(1,.pc 0 0)],[c20]⟩ [(.ret,⟨[(0,.bool)],[c20]⟩)] (hfind [])
theorem K56:P56.OK Tryz.prog:=kA zi (by kernel_rfl)
noncomputable def P57:=spA false [P56] 159 1 Tryz.f159 ⟨[(0,.sl 112),(1,.clo 158 [.pc 0 0])],[c20]⟩ [(.ret,⟨[(0,ii)],[c20]⟩)] (hfind [(6,.loop ⟨[(0,.sl 112),(1,.clo 158 [.pc 0 0]),(7,ii),(8,ii)],[c20]⟩ [(.ret,⟨[(4,ii)],[c20]⟩),(.exit 0,⟨[],[c20]⟩)])])
theorem K57:P57.OK Tryz.prog:=kA (za K56 zi) (by kernel_rfl)
noncomputable def P58:=spA false [P57] 157 1 Tryz.f157 ⟨[(0,.sl 112),(1,.clo 158 [.pc 0 0])],[c20]⟩ [(.ret,⟨[(0,.bool)],[c20]⟩)] (hfind [])
theorem K58:P58.OK Tryz.prog:=kA (za K57 zi) (by kernel_rfl)
noncomputable def P59:=spA false [P58] 115 1 Tryz.f115 ⟨[(0,.sl 112),(1,.str)],[]⟩ [(.ret,⟨[(0,.bool)],[]⟩)] (hfind [])
theorem K59:P59.OK Tryz.prog:=kA (za K58 zi) (by kernel_rfl)
noncomputable def P60:=spA false [] 160 1 Tryz.f160 ⟨[(0,.val 112),(1,.pc 0 0)],[c20]⟩ [(.ret,⟨[(0,.bool)],[c20]⟩)] (hfind [(3,.cut [(.normal,⟨[(3,.bool)],[c20]⟩)])])
theorem K60:P60.OK Tryz.prog:=kA zi (by kernel_rfl)
noncomputable def P61:=spA false [P60] 159 1 Tryz.f159 ⟨[(0,.sl 112),(1,.clo 160 [.pc 0 0])],[c20]⟩ [(.ret,⟨[(0,ii)],[c20]⟩)] (hfind [(6,.loop ⟨[(0,.sl 112),(1,.clo 160 [.pc 0 0]),(7,ii),(8,ii)],[c20]⟩ [(.ret,⟨[(4,ii)],[c20]⟩),(.exit 0,⟨[],[c20]⟩)])])
theorem K61:P61.OK Tryz.prog:=kA (za K60 zi) (by kernel_rfl)
noncomputable def P62:=spA false [P61] 116 1 Tryz.f116 ⟨[(0,.val 65),(1,.str),(2,.sl 112)],[]⟩ [(.ret,⟨[(0,ii)],[]⟩)] (hfind [])
theorem K62:P62.OK Tryz.prog:=kA (za K61 zi) (by kernel_rfl)
noncomputable def P63:=spA false [] 161 1 Tryz.f161 ⟨[(0,.sl 9),(1,.str)],[]⟩ [(.ret,⟨[(0,ii)],[]⟩)] (hfind [(6,.loop ⟨[(0,.sl 9),(1,.str),(7,ii),(8,ii)],[]⟩ [(.ret,⟨[(4,ii)],[]⟩),(.exit 0,⟨[],[]⟩)])])
theorem K63:P63.OK Tryz.prog:=kA zi (by kernel_rfl)
noncomputable def P64:=spA false [P63,P62,P55,P54] 117 0 Tryz.f117 ⟨[(0,.sl 65),(1,.pc 0 0),(2,.val 112),(3,.sl 112),(4,.sl 112)],[c16,.row 229,.row 283]⟩ [(.pan (.ifc 190 (.agg [ii,ii])),⟨[],[c16,.row 229,.row 283]⟩),(.ret,⟨[],[c16,.row 229,.row 283]⟩)] (hfind [(10,.cut [(.normal,⟨[(0,.sl 65),(1,.pc 0 0),(3,.sl 112),(4,.sl 112),(7,.pc 3 0),(20,ii),(21,.bool)],[c16,.row 229,.row 283,c6]⟩)]),(13,.cut [(.pan (.ifc 190 (.agg [ii,ii])),⟨[],[c16,.row 229,.row 283]⟩),(.normal,⟨[],[c16,.row 229,.row 283]⟩)]),(15,.draw (od [1,3,5,7,9,11,13,15,17,19,20,23,25,26]) []),(16,.draw (od [1,3,5,7,9,11,12]) []),(19,.cut [(.pan (.ifc 190 (.agg [ii,ii])),⟨[],[c16,.row 229,.row 283]⟩),(.normal,⟨[],[c16,.row 229,.row 283]⟩)]),(23,.draw (od [1,3,5,7,9,11,13,15,17,19,21,23,25,27,29,31,33,34]) [(.pan (.ifc 190 (.agg [ii,ii])),⟨[],[c16,.row 229,.row 283]⟩),(.normal,⟨[(3,.sl 112),(4,.sl 112),(7,.pc 3 0)],[c16,.row 229,.row 283,c6]⟩)])])
theorem K64:P64.OK Tryz.prog:=kA (za K63 (za K62 (za K55 (za K54 zi)))) (by kernel_rfl)
noncomputable def P65:=spA false [] 162 1 Tryz.f162 ⟨[(0,.str),(1,ii),(2,ii),(3,ii),(4,ii)],[]⟩ [(.ret,⟨[(0,.row 0)],[.row 283]⟩)] (hfind [(8,.cut [(.ret,⟨[(10,.row 0)],[.row 283]⟩),(.normal,⟨[],[]⟩)]),(14,.cut [(.ret,⟨[(10,.row 0)],[.row 283]⟩),(.normal,⟨[],[]⟩)])])
theorem K65:P65.OK Tryz.prog:=kA zi (by kernel_rfl)
noncomputable def P66:=spA false [P62,P55,P65] 118 0 Tryz.f118 ⟨[(0,.pc 0 0),(1,.val 112),(2,.sl 112)],[c16,.row 229,.row 283]⟩ [(.pan (.ifc 190 (.agg [ii,ii])),⟨[],[c16,.row 229,.row 283]⟩),(.ret,⟨[],[.cell [.str,ii,ii,.row 1,.row 3],.row 229,.gone,.row 283]⟩)] (hfind [(8,.loop ⟨[(0,.pc 0 0),(2,.sl 112),(4,.pc 3 0),(6,.pc 4 0),(11,.sl 112),(12,ii),(13,ii)],[c16,.row 229,.row 283,c6,c55]⟩ [(.pan (.ifc 190 (.agg [ii,ii])),⟨[],[c16,.row 229,.row 283]⟩),(.exit 0,⟨[(0,.pc 0 0),(4,.pc 3 0),(6,.pc 4 0)],[c16,.row 229,.row 283,c6,c55]⟩)]),(16,.cut [(.normal,⟨[(0,.pc 0 0),(2,.sl 112),(4,.pc 3 0),(6,.pc 4 0),(11,.sl 112),(12,ii),(13,ii)],[c16,.row 229,.row 283,c6,c55]⟩),(.pan (.ifc 190 (.agg [ii,ii])),⟨[],[c16,.row 229,.row 283]⟩)]),(26,.draw (od [1,3,5,7,9,11,12,15]) []),(28,.draw (od [1,3,5,7,9,11,13,15,17,19,21,23,25,27,29,31,33,35,37,39,41,43,45,47,49,51,52]) [(.pan (.ifc 190 (.agg [ii,ii])),⟨[],[c16,.row 229,.row 283]⟩),(.normal,⟨[(0,.pc 0 0),(2,.sl 112),(4,.pc 3 0),(6,.pc 4 0),(7,ii),(9,ii),(11,.sl 112),(12,ii),(13,ii)],[c16,.row 229,.row 283,c6,c55]⟩)]),(29,.cut [(.normal,⟨[(0,.pc 0 0),(2,.sl 112),(4,.pc 3 0),(6,.pc 4 0),(11,.sl 112),(12,ii),(13,ii)],[c16,.row 229,.row 283,c6,c55]⟩)]),(31,.draw (od [1,3,5,7,9,11,13,15,17,19,21,23,25,27,29,31,33,35,37,39,41,42,44,47,49,50]) [])])
theorem K66:P66.OK Tryz.prog:=kA (za K62 (za K55 (za K65 zi))) (by kernel_rfl)
noncomputable def P67:=spA true [P51,P54,P55,P59,P62,P64,P66] 68 1 Tryz.f68 ⟨[(0,.sl 65),(1,.val 112)],[]⟩ [(.pan (.ifc 190 (.agg [ii,ii])),⟨[],[]⟩),(.ret,⟨[(0,.agg [.str,ii,ii,.row 0,.row 1])],[.row 229,.row 283]⟩)] (hfind [(7,.draw (od [1,3,5,11,6,9,12]) []),(14,.loop ⟨[(0,.sl 65),(3,.pc 0 0),(4,.pc 1 0),(5,.sl 112),(6,.row 2),(7,.pc 3 0),(33,.sl 112),(34,ii),(35,ii)],[c6,c10,.row 112,c49,.row 229]⟩ [(.pan (.ifc 190 (.agg [ii,ii])),⟨[],[]⟩),(.exit 0,⟨[(0,.sl 65),(3,.pc 0 0),(4,.pc 1 0),(5,.sl 112),(6,.row 2),(7,.pc 3 0)],[c6,c10,.row 112,c49,.row 229]⟩)]),(22,.cut [(.pan (.ifc 190 (.agg [ii,ii])),⟨[],[]⟩),(.normal,⟨[(0,.sl 65),(3,.pc 0 0),(4,.pc 1 0),(5,.sl 112),(6,.row 2),(7,.pc 3 0),(33,.sl 112),(34,ii),(35,ii)],[c6,c10,.row 112,c49,.row 229]⟩)]),(26,.draw (od [1,3,5,7,9,15,10,13,16]) []),(32,.cut [(.pan (.ifc 190 (.agg [ii,ii])),⟨[],[]⟩),(.normal,⟨[(0,.sl 65),(3,.pc 0 0),(4,.pc 1 0),(5,.sl 112),(6,.row 2),(7,.pc 3 0),(9,.pc 4 0),(10,ii),(33,.sl 112),(34,ii),(35,ii)],[c6,c10,.row 112,c32,c6,.row 229]⟩)]),(34,.draw (od [1,3,5,7,9,11,13,14,17]) []),(35,.draw (od [1,3,5,7,9,11,13,15,17,19,21,22]) [(.pan (.ifc 190 (.agg [ii,ii])),⟨[],[]⟩),(.normal,⟨[(0,.sl 65),(3,.pc 0 0),(4,.pc 1 0),(5,.sl 112),(6,.row 2),(7,.pc 3 0),(9,.pc 4 0),(10,ii),(33,.sl 112),(34,ii),(35,ii)],[c6,c10,.row 112,c32,c6,.row 229]⟩)]),(45,.loop ⟨[(4,.pc 0 0),(5,.sl 112),(7,.pc 1 0),(91,.sl 112),(92,ii),(93,ii)],[c10,c30,.row 229,.row 283]⟩ [(.pan (.ifc 190 (.agg [ii,ii])),⟨[],[]⟩),(.exit 2,⟨[(4,.pc 0 0),(7,.pc 1 0)],[c10,c30,.row 229,.row 283]⟩)])])
theorem K67:P67.OK Tryz.prog:=kA (za K51 (za K54 (za K55 (za K59 (za K62 (za K64 (za K66 zi))))))) (by kernel_rfl)
def I68:Sig:=⟨[(0,.pc 0 0),(1,.pc 1 0),(2,.pc 2 0),(3,.ifc 190 (.agg [ii,ii]))],[c50,c11,c11,.row 65]⟩
def O68:List (XK×Sig):=[(.ret,⟨[],[c26,c11,c11,.row 65]⟩)]
def H68:Nat→Option Hint:=hfind [(5,.draw (od [1,3,5,7,8,10,12]) [])]
noncomputable def F68 (x:I68.ty CC):Option (zk CC O68):=zbt ⟨false⟩ [] lpO Tryz.prog Tryz.f67 0 I68 O68 H68 x
noncomputable def P68:Spec CC:=⟨67,0,I68,O68,F68⟩
theorem K68:Spec.OKD Tryz.prog P68:=Vj zi ZF ZE H68 (by kernel_rfl) (by kernel_rfl) (by kernel_rfl) fun x=>rfl
def I69:Sig:=⟨[(0,.pc 0 0),(1,.pc 1 0),(2,.pc 2 0),(3,.nili)],[c50,c11,c11,.row 65]⟩
def O69:List (XK×Sig):=[(.ret,⟨[],[c50,c11,c11,.row 65]⟩)]
def H69:Nat→Option Hint:=hfind []
noncomputable def F69 (x:I69.ty CC):Option (zk CC O69):=zbt ⟨false⟩ [] lpO Tryz.prog Tryz.f67 0 I69 O69 H69 x
noncomputable def P69:Spec CC:=⟨67,0,I69,O69,F69⟩
theorem K69:Spec.OKD Tryz.prog P69:=Vj zi ZF ZE H69 (by kernel_rfl) (by kernel_rfl) (by kernel_rfl) fun x=>rfl
def I70:Sig:=⟨[(0,.val 112)],[]⟩
def O70:List (XK×Sig):=[(.ret,⟨[(0,.row 0),(1,ii),(2,ii)],[.row 65]⟩)]
def H70:Nat→Option Hint:=hfind [(3,.loop ⟨[(1,.pc 0 0),(2,.pc 1 0),(3,.pc 2 0),(4,.pc 3 0),(7,.clo 67 [.pc 1 0,.pc 2 0,.pc 3 0])],[c6,c26,c11,c11]⟩ []),(8,.loop ⟨[(2,.pc 1 0),(3,.pc 2 0),(4,.pc 3 0),(9,.sl 112),(10,ii),(11,ii)],[c6,c38,c11,c11,.row 65]⟩ [(.pan (.ifc 190 (.agg [ii,ii])),⟨[(2,.pc 1 0),(3,.pc 2 0),(4,.pc 3 0)],[c6,c38,c11,c11,.row 65]⟩),(.exit 0,⟨[(2,.pc 1 0),(3,.pc 2 0),(4,.pc 3 0)],[c6,c38,c11,c11,.row 65]⟩)]),(21,.cut [(.pan (.ifc 190 (.agg [ii,ii])),⟨[(2,.pc 1 0),(3,.pc 2 0),(4,.pc 3 0)],[c6,c38,c11,c11,.row 65]⟩),(.normal,⟨[(2,.pc 1 0),(3,.pc 2 0),(4,.pc 3 0),(9,.sl 112),(10,ii),(11,ii)],[c6,c38,c11,c11,.row 65]⟩)]),(22,.draw (od [3,5,8198,8200,8,0,10,12,6,8,10,12]) [(.pan (.ifc 190 (.agg [ii,ii])),⟨[(2,.pc 1 0),(3,.pc 2 0),(4,.pc 3 0)],[c6,c38,c11,c11,.row 65]⟩),(.normal,⟨[(2,.pc 1 0),(3,.pc 2 0),(4,.pc 3 0),(9,.sl 112),(10,ii),(11,ii)],[c6,c38,c11,c11,.row 65]⟩)])]
noncomputable def F70 (x:I70.ty CC):Option (zk CC O70):=zfy ⟨false⟩ [P67] (P69) (P68) lpO Tryz.prog Tryz.f39 3 I70 O70 H70 x
noncomputable def P70:Spec CC:=⟨39,3,I70,O70,F70⟩
theorem K70:Spec.OK Tryz.prog P70:=zfz (za K67 zi) K69 K68 ZF ZE H70 (by kernel_rfl) (by kernel_rfl) (by kernel_rfl) fun x=>rfl
noncomputable def P71:=spA false [P63,P54] 119 2 Tryz.f119 ⟨[(0,.val 112),(1,.sl 65)],[]⟩ [(.ret,⟨[(0,.val 61),(1,ii)],[]⟩)] (hfind [(7,.cut [(.ret,⟨[(4,.pc 0 0),(5,ii)],[c9]⟩),(.normal,⟨[(4,.pc 0 0),(6,.pc 1 0)],[c9,c9]⟩)])])
theorem K71:P71.OK Tryz.prog:=kA (za K63 (za K54 zi)) (by kernel_rfl)
noncomputable def P72:=spA false [] 120 1 Tryz.f120 ⟨[(0,.val 61),(1,.pc 0 0)],[c9]⟩ [(.ret,⟨[(0,.bool)],[c9]⟩)] (hfind [])
theorem K72:P72.OK Tryz.prog:=kA zi (by kernel_rfl)
noncomputable def P73:=spA false [P72] 34 1 Tryz.f34 ⟨[(0,.row 0),(1,.clo 120 [.pc 1 0])],[.row 61,c9]⟩ [(.ret,⟨[(0,ii)],[.row 61,c9]⟩)] (hfind [(6,.loop ⟨[(0,.row 0),(1,.clo 120 [.pc 1 0]),(7,ii),(8,ii)],[.row 61,c9]⟩ [(.ret,⟨[(4,ii)],[.row 61,c9]⟩),(.exit 0,⟨[],[.row 61,c9]⟩)])])
theorem K73:P73.OK Tryz.prog:=kA (za K72 zi) (by kernel_rfl)
noncomputable def P74:=spA false [P73] 20 1 Tryz.f20 ⟨[(0,.row 0),(1,.clo 120 [.pc 1 0])],[.row 61,c9]⟩ [(.ret,⟨[(0,.bool)],[.row 61,c9]⟩)] (hfind [])
theorem K74:P74.OK Tryz.prog:=kA (za K73 zi) (by kernel_rfl)
noncomputable def P75:=spA false [] 121 1 Tryz.f121 ⟨[(0,.val 61),(1,.sl 65)],[]⟩ [(.ret,⟨[(0,.bool)],[]⟩)] (hfind [(3,.cut [(.normal,⟨[(4,.bool)],[]⟩)])])
theorem K75:P75.OK Tryz.prog:=kA zi (by kernel_rfl)
noncomputable def P76:=spA false [] 122 1 Tryz.f122 ⟨[(0,.val 61),(1,.pc 0 0)],[c9]⟩ [(.ret,⟨[(0,.bool)],[c9]⟩)] (hfind [(3,.cut [(.normal,⟨[(3,.bool)],[c9]⟩)])])
theorem K76:P76.OK Tryz.prog:=kA zi (by kernel_rfl)
noncomputable def P77:=spA false [P76] 34 1 Tryz.f34 ⟨[(0,.row 0),(1,.clo 122 [.pc 1 0])],[.row 61,c9]⟩ [(.ret,⟨[(0,ii)],[.row 61,c9]⟩)] (hfind [(6,.loop ⟨[(0,.row 0),(1,.clo 122 [.pc 1 0]),(7,ii),(8,ii)],[.row 61,c9]⟩ [(.ret,⟨[(4,ii)],[.row 61,c9]⟩),(.exit 0,⟨[],[.row 61,c9]⟩)])])
theorem K77:P77.OK Tryz.prog:=kA (za K76 zi) (by kernel_rfl)
noncomputable def P78:=spA false [P77] 20 1 Tryz.f20 ⟨[(0,.row 0),(1,.clo 122 [.pc 1 0])],[.row 61,c9]⟩ [(.ret,⟨[(0,.bool)],[.row 61,c9]⟩)] (hfind [])
theorem K78:P78.OK Tryz.prog:=kA (za K77 zi) (by kernel_rfl)
noncomputable def P79:=spA false [P71,P74,P75,P78] 69 3 Tryz.f69 ⟨[(0,.val 112),(1,.sl 65)],[]⟩ [(.ret,⟨[(0,.val 130),(1,ii),(2,ii)],[]⟩)] (hfind [(11,.draw (od [1,3,5,6,9,11]) []),(18,.loop ⟨[(1,.sl 65),(2,.pc 0 0),(4,.pc 1 0),(7,.pc 2 0),(8,ii),(29,.sl 112),(30,ii),(31,ii)],[c6,c17,c33,.row 61]⟩ [(.ret,⟨[(4,.pc 0 0),(5,ii),(6,ii)],[c17]⟩),(.exit 0,⟨[(1,.sl 65),(2,.pc 0 0),(4,.pc 1 0),(7,.pc 2 0),(8,ii)],[c6,c17,c33,.row 61]⟩)]),(37,.cut [(.ret,⟨[(4,.pc 0 0),(5,ii),(6,ii)],[c17]⟩),(.normal,⟨[(1,.sl 65),(2,.pc 0 0),(4,.pc 1 0),(7,.pc 2 0),(8,ii),(11,.pc 3 0),(29,.sl 112),(30,ii),(31,ii)],[c6,c17,c42,c9,.row 61]⟩)]),(39,.draw (od [1,3,5,6,9,11]) []),(43,.cut [(.ret,⟨[(4,.pc 0 0),(5,ii),(6,ii)],[c17]⟩),(.normal,⟨[(1,.sl 65),(2,.pc 0 0),(4,.pc 1 0),(7,.pc 2 0),(8,ii),(11,.pc 3 0),(29,.sl 112),(30,ii),(31,ii)],[c6,c17,c42,c9,.row 61]⟩)]),(45,.draw (od [1,3,5,7,9,11,13,14,17,19]) []),(48,.cut [(.normal,⟨[(1,.sl 65),(2,.pc 0 0),(4,.pc 1 0),(7,.pc 2 0),(8,ii),(10,.pc 3 0),(11,.pc 4 0),(29,.sl 112),(30,ii),(31,ii),(65,.bool)],[c6,c17,c43,c6,c9,.row 61]⟩)]),(51,.draw (od [1,3,5,7,9,11,12,15,17]) []),(65,.draw (od [1,3,5,7,9,11,13,15,16,19,21]) [])])
theorem K79:P79.OK Tryz.prog:=kA (za K71 (za K74 (za K75 (za K78 zi)))) (by kernel_rfl)
noncomputable def P80:=spA false [P79] 40 3 Tryz.f40 ⟨[(0,.val 112),(1,.sl 65)],[]⟩ [(.ret,⟨[(0,.row 0),(1,ii),(2,ii)],[.row 130]⟩)] (hfind [(8,.loop ⟨[(1,.sl 65),(7,.row 0),(14,.sl 112),(15,ii),(16,ii)],[.row 130]⟩ [(.ret,⟨[(4,.nils),(5,ii),(6,ii)],[]⟩),(.exit 0,⟨[(7,.row 0)],[.row 130]⟩)]),(16,.cut [(.normal,⟨[(1,.sl 65),(7,.row 0),(14,.sl 112),(15,ii),(16,ii)],[.row 130]⟩),(.ret,⟨[(4,.nils),(5,ii),(6,ii)],[]⟩)])])
theorem K80:P80.OK Tryz.prog:=kA (za K79 zi) (by kernel_rfl)
noncomputable def P81:=spA false [] 135 1 Tryz.f135 ⟨[(0,.int .u8)],[]⟩ [(.ret,⟨[(0,.bool)],[]⟩)] (hfind [(3,.cut [(.normal,⟨[(2,.bool)],[]⟩)])])
theorem K81:P81.OK Tryz.prog:=kA zi (by kernel_rfl)
noncomputable def P82:=spA false [] 136 1 Tryz.f136 ⟨[(0,.int .u8)],[]⟩ [(.ret,⟨[(0,.bool)],[]⟩)] (hfind [(3,.cut [(.normal,⟨[(2,.bool)],[]⟩)])])
theorem K82:P82.OK Tryz.prog:=kA zi (by kernel_rfl)
noncomputable def P83:=spA false [] 137 1 Tryz.f137 ⟨[(0,.str)],[]⟩ [(.ret,⟨[(0,.bool)],[]⟩)] (hfind [(9,.cut [(.normal,⟨[(4,.bool)],[]⟩)]),(13,.cut [(.normal,⟨[(4,.bool)],[]⟩)]),(17,.cut [(.normal,⟨[(4,.bool)],[]⟩)]),(21,.cut [(.normal,⟨[(4,.bool)],[]⟩)]),(25,.cut [(.normal,⟨[(4,.bool)],[]⟩)]),(29,.cut [(.normal,⟨[(4,.bool)],[]⟩)]),(33,.cut [(.normal,⟨[(4,.bool)],[]⟩)]),(37,.cut [(.normal,⟨[(4,.bool)],[]⟩)]),(41,.cut [(.normal,⟨[(4,.bool)],[]⟩)]),(45,.cut [(.normal,⟨[(4,.bool)],[]⟩)]),(49,.cut [(.normal,⟨[(4,.bool)],[]⟩)]),(53,.cut [(.normal,⟨[(4,.bool)],[]⟩)]),(57,.cut [(.normal,⟨[(4,.bool)],[]⟩)]),(61,.cut [(.normal,⟨[(4,.bool)],[]⟩)]),(65,.cut [(.normal,⟨[(4,.bool)],[]⟩)]),(69,.cut [(.normal,⟨[(4,.bool)],[]⟩)]),(73,.cut [(.normal,⟨[(4,.bool)],[]⟩)]),(77,.cut [(.normal,⟨[(4,.bool)],[]⟩)]),(81,.cut [(.normal,⟨[(4,.bool)],[]⟩)])])
theorem K83:P83.OK Tryz.prog:=kA zi (by kernel_rfl)
noncomputable def P84:=spA false [] 138 1 Tryz.f138 ⟨[(0,.str),(1,ii)],[]⟩ [(.ret,⟨[(0,ii)],[]⟩)] (hfind [(7,.cut [(.normal,⟨[(0,.str),(1,ii),(5,.str)],[]⟩)]),(12,.cut [(.normal,⟨[(0,.str),(1,ii),(25,.bool)],[]⟩)]),(25,.cut [(.normal,⟨[(29,.bool)],[]⟩)]),(29,.cut [(.normal,⟨[(29,.bool)],[]⟩)]),(33,.cut [(.normal,⟨[(29,.bool)],[]⟩)]),(37,.cut [(.normal,⟨[(29,.bool)],[]⟩)]),(41,.cut [(.normal,⟨[(29,.bool)],[]⟩)]),(45,.cut [(.normal,⟨[(29,.bool)],[]⟩)]),(49,.cut [(.normal,⟨[(29,.bool)],[]⟩)]),(53,.cut [(.normal,⟨[(29,.bool)],[]⟩)]),(57,.cut [(.normal,⟨[(29,.bool)],[]⟩)]),(61,.cut [(.normal,⟨[(29,.bool)],[]⟩)]),(65,.cut [(.normal,⟨[(29,.bool)],[]⟩)]),(69,.cut [(.normal,⟨[(29,.bool)],[]⟩)]),(73,.cut [(.normal,⟨[(29,.bool)],[]⟩)])])
theorem K84:P84.OK Tryz.prog:=kA zi (by kernel_rfl)
noncomputable def P85:=spA false [P81,P82,P83,P84] 90 2 Tryz.f90 ⟨[(0,.str),(1,ii)],[]⟩ [(.ret,⟨[(0,.val 164),(1,ii)],[]⟩)] (hfind [(13,.cut [(.ret,⟨[(4,.pc 0 0),(5,ii)],[c19]⟩),(.normal,⟨[(0,.str),(1,ii),(4,.pc 0 0),(6,.pc 1 0),(7,ii),(9,.bool)],[c19,c19]⟩)]),(16,.loop ⟨[(0,.str),(1,ii),(4,.pc 0 0),(6,.pc 1 0),(7,ii)],[c19,c19]⟩ [(.exit 0,⟨[(0,.str),(1,ii),(4,.pc 0 0),(6,.pc 1 0),(7,ii)],[c19,c19]⟩)]),(30,.cut [(.normal,⟨[(0,.str),(1,ii),(4,.pc 0 0),(6,.pc 1 0),(7,ii),(47,.bool)],[c19,c19]⟩)]),(52,.cut [(.normal,⟨[(4,.pc 0 0),(6,.pc 1 0)],[c19,c19]⟩)]),(62,.cut [(.ret,⟨[(4,.pc 0 0),(5,ii)],[c19]⟩),(.normal,⟨[(0,.str),(1,ii),(4,.pc 0 0),(6,.pc 1 0)],[c19,c19]⟩)]),(69,.loop ⟨[(0,.str),(1,ii),(4,.pc 0 0),(6,.pc 1 0),(7,ii),(13,ii),(14,.bool)],[c19,c19]⟩ [(.exit 2,⟨[(0,.str),(1,ii),(4,.pc 0 0),(6,.pc 1 0),(7,ii),(13,ii),(14,.bool)],[c19,c19]⟩)]),(88,.cut [(.normal,⟨[(0,.str),(1,ii),(4,.pc 0 0),(6,.pc 1 0),(7,ii),(13,ii),(14,.bool)],[c19,c19]⟩)]),(94,.cut [(.normal,⟨[(0,.str),(1,ii),(4,.pc 0 0),(6,.pc 1 0),(7,ii),(13,ii),(14,.bool)],[c19,c19]⟩)]),(103,.cut [(.normal,⟨[(0,.str),(1,ii),(4,.pc 0 0),(6,.pc 1 0),(7,ii),(13,ii),(14,.bool),(16,.bool)],[c19,c19]⟩)]),(108,.cut [(.normal,⟨[(0,.str),(1,ii),(4,.pc 0 0),(6,.pc 1 0),(7,ii),(13,ii),(115,.bool)],[c19,c19]⟩)])])
theorem K85:P85.OK Tryz.prog:=kA (za K81 (za K82 (za K83 (za K84 zi)))) (by kernel_rfl)
noncomputable def P86:=spA false [P85] 51 3 Tryz.f51 ⟨[(0,.str)],[]⟩ [(.ret,⟨[(0,.row 0),(1,ii),(2,ii)],[.row 164]⟩)] (hfind [(16,.loop ⟨[(0,.str),(5,.row 0),(6,ii)],[.row 164]⟩ [(.ret,⟨[(2,.nils),(3,ii),(4,ii)],[]⟩),(.exit 0,⟨[(0,.str),(5,.row 0)],[.row 164]⟩)]),(23,.cut [(.normal,⟨[(0,.str),(5,.row 0),(6,ii)],[.row 164]⟩),(.ret,⟨[(2,.nils),(3,ii),(4,ii)],[]⟩)]),(26,.cut [(.normal,⟨[(0,.str),(5,.row 0),(6,ii),(25,.bool)],[.row 164]⟩)]),(38,.loop ⟨[(0,.str),(5,.row 0),(6,ii)],[.row 164]⟩ [(.exit 2,⟨[(0,.str),(5,.row 0),(6,ii)],[.row 164]⟩)]),(41,.cut [(.normal,⟨[(0,.str),(5,.row 0),(6,ii),(41,.bool)],[.row 164]⟩)])])
theorem K86:P86.OK Tryz.prog:=kA (za K85 zi) (by kernel_rfl)
noncomputable def P87:=spA false [] 91 1 Tryz.f91 ⟨[(0,.pc 0 0),(1,.str)],[c3,.row 164]⟩ [(.ret,⟨[(0,.bool)],[c3,.row 164]⟩)] (hfind [(3,.draw (od [1,3,5,7,9,11,13,15,17,19,21,23]) []),(5,.draw (od [1,3,5,7,9,11,13,15,17,19,21,23,25,27,29,31,33,35,37,39,41,43,45,47,49,51,53,55,57]) [(.normal,⟨[(4,.bool)],[c3,.row 164]⟩)])])
theorem K87:P87.OK Tryz.prog:=kA zi (by kernel_rfl)
noncomputable def P88:=spA false [P87] 52 1 Tryz.f52 ⟨[(0,.pc 0 0),(1,.str)],[c3,.row 164]⟩ [(.ret,⟨[(0,.bool)],[c3,.row 164]⟩)] (hfind [(7,.cut [(.normal,⟨[(5,.bool)],[c3,.row 164]⟩)])])
theorem K88:P88.OK Tryz.prog:=kA (za K87 zi) (by kernel_rfl)
noncomputable def P89:=spA false [] 94 0 Tryz.f94 ⟨[(0,.pc 0 0),(1,ii)],[c3,.row 164]⟩ [(.ret,⟨[],[c3,.row 164]⟩)] (hfind [(2,.cut [(.normal,⟨[],[c3,.row 164]⟩)]),(5,.draw (od [1,3,5,7,9,11,13,15,17,19,21,23,25,27,28]) [])])
theorem K89:P89.OK Tryz.prog:=kA zi (by kernel_rfl)
noncomputable def P90:=spA false [P89] 92 1 Tryz.f92 ⟨[(0,.pc 0 0)],[c3,.row 164]⟩ [(.ret,⟨[(0,.agg [ii,.str,ii,ii,.nils])],[c3,.row 164]⟩)] (hfind [(3,.draw (od [1,3,5,7,9,11,13,15,17,19,20,22]) []),(6,.cut [(.normal,⟨[(0,.pc 0 0),(2,.pc 2 0),(3,.pc 3 0),(23,.bool)],[c3,.row 164,c1,c19]⟩)])])
theorem K90:P90.OK Tryz.prog:=kA (za K89 zi) (by kernel_rfl)
noncomputable def P91:=spA false [P88,P89] 54 0 Tryz.f54 ⟨[(0,.pc 0 0),(1,.str)],[c3,.row 164]⟩ [(.ret,⟨[],[c3,.row 164]⟩)] (hfind [(4,.cut [(.normal,⟨[],[c3,.row 164]⟩)])])
theorem K91:P91.OK Tryz.prog:=kA (za K88 (za K89 zi)) (by kernel_rfl)
noncomputable def P92:=spA false [P88,P91,P90] 93 1 Tryz.f93 ⟨[(0,.pc 0 0)],[c3,.row 164]⟩ [(.ret,⟨[(0,.val 116)],[c3,.row 164]⟩)] (hfind [(3,.draw (od [1,3,5,7,9,11,13,15,17,19,21,23,25,27,29,31,33,35,37,39,41,43,45,46,48]) []),(19,.cut [(.normal,⟨[(0,.pc 0 0),(2,.pc 2 0),(3,.pc 3 0)],[c3,.row 164,c1,c1]⟩)]),(26,.cut [(.normal,⟨[(0,.pc 0 0),(2,.pc 2 0),(3,.pc 3 0)],[c3,.row 164,c1,c1]⟩)])])
theorem K92:P92.OK Tryz.prog:=kA (za K88 (za K91 (za K90 zi))) (by kernel_rfl)
noncomputable def P93:=spA false [P89] 176 1 Tryz.f176 ⟨[(0,.pc 0 0)],[c3,.row 164]⟩ [(.ret,⟨[(0,ii)],[c3,.row 164]⟩)] (hfind [(3,.draw (od [1,3,5,7,9,11,13,15,17,19,20,22]) []),(6,.cut [(.normal,⟨[(0,.pc 0 0),(3,.pc 2 0),(23,.bool)],[c3,.row 164,c19]⟩)])])
theorem K93:P93.OK Tryz.prog:=kA (za K89 zi) (by kernel_rfl)
noncomputable def P94:=spA false [P88,P93] 179 1 Tryz.f179 ⟨[(0,.pc 0 0),(1,.val 116)],[c3,.row 164]⟩ [(.ret,⟨[(0,.val 116)],[c3,.row 164]⟩)] (hfind [(19,.cut [(.normal,⟨[(3,.pc 2 0),(4,.pc 3 0)],[c3,.row 164,c7,c1]⟩)])])
theorem K94:P94.OK Tryz.prog:=kA (za K88 (za K93 zi)) (by kernel_rfl)
noncomputable def P95:=spA false [P93,P88,P90,P94] 140 1 Tryz.f140 ⟨[(0,.pc 0 0)],[c3,.row 164]⟩ [(.ret,⟨[(0,.val 116)],[c3,.row 164]⟩)] (hfind [(3,.draw (od [1,3,5,7,9,11,13,15,17,19,21,23]) []),(6,.draw (od [1,3,5,7,9,11,13,15,17,19,21,23]) [])])
theorem K95:P95.OK Tryz.prog:=kA (za K93 (za K88 (za K90 (za K94 zi)))) (by kernel_rfl)
noncomputable def P96:=spA false [P88,P89] 141 1 Tryz.f141 ⟨[(0,.pc 0 0)],[c3,.row 164]⟩ [(.ret,⟨[(0,.str)],[c3,.row 164]⟩)] (hfind [(8,.loop ⟨[(0,.pc 0 0),(3,.row 2),(4,ii)],[c3,.row 164,.row 9]⟩ [(.ret,⟨[(2,.str)],[c3,.row 164]⟩),(.exit 0,⟨[(0,.pc 0 0)],[c3,.row 164]⟩)])])
theorem K96:P96.OK Tryz.prog:=kA (za K88 (za K89 zi)) (by kernel_rfl)
noncomputable def P97:=spA false [P95,P96] 98 1 Tryz.f98 ⟨[(0,.pc 0 0)],[c3,.row 164]⟩ [(.ret,⟨[(0,.agg [ii,.str,ii,ii,.row 2])],[c3,.row 164,.row 116]⟩)] (hfind [])
theorem K97:P97.OK Tryz.prog:=kA (za K95 (za K96 zi)) (by kernel_rfl)
noncomputable def P98:=spA false [P91,P88,P95] 177 1 Tryz.f177 ⟨[(0,.pc 0 0)],[c3,.row 164]⟩ [(.ret,⟨[(0,.row 2)],[c3,.row 164,.row 116]⟩)] (hfind [(8,.cut [(.normal,⟨[(0,.pc 0 0),(18,.bool)],[c3,.row 164]⟩)]),(20,.loop ⟨[(0,.pc 0 0),(4,.pc 2 0),(5,.row 3)],[c3,.row 164,c7,.row 116]⟩ [(.exit 0,⟨[(0,.pc 0 0),(5,.row 2)],[c3,.row 164,.row 116]⟩)])])
theorem K98:P98.OK Tryz.prog:=kA (za K91 (za K88 (za K95 zi))) (by kernel_rfl)
noncomputable def P99:=spA false [P88,P93,P90,P95,P87,P98,P91,P94] 189 1 Tryz.f189 ⟨[(0,.pc 0 0)],[c3,.row 164]⟩ [(.ret,⟨[(0,.val 116)],[c3,.row 164]⟩)] (hfind [(3,.draw (od [1,3,5,7,9,11,13,15,17,19,21,23,24,26]) []),(47,.cut [(.normal,⟨[(0,.pc 0 0),(2,.pc 2 0),(3,.pc 3 0)],[c3,.row 164,c1,c1]⟩)]),(60,.draw (od [1,3,5,7,9,11,13,15,17,19,21,23]) []),(106,.draw (od [1,3,5,7,9,11,13,15,17,19,21,23,25,27,29,31,33,35,37]) [(.normal,⟨[(0,.pc 0 0),(2,.pc 2 0),(3,.pc 3 0),(14,.bool),(119,.bool)],[c3,.row 164,c1,c1]⟩)]),(117,.cut [(.normal,⟨[(2,.pc 2 0),(16,.pc 3 0)],[c3,.row 164,c1,c8,.row 116]⟩)])])
theorem K99:P99.OK Tryz.prog:=kA (za K88 (za K93 (za K90 (za K95 (za K87 (za K98 (za K91 (za K94 zi)))))))) (by kernel_rfl)
noncomputable def zol:=spA false [P90,P87,P98,P88,P95,P91,P99] 178 1 Tryz.f178 ⟨[(0,.pc 0 0)],[c3,.row 164]⟩ [(.ret,⟨[(0,.agg [ii,.str,ii,ii,.row 2])],[c3,.row 164,.row 116]⟩)] (hfind [])
theorem zt5:zol.OK Tryz.prog:=kA (za K90 (za K87 (za K98 (za K88 (za K95 (za K91 (za K99 zi))))))) (by kernel_rfl)
def zkr:Sig:=⟨[(0,.pc 0 0),(1,ii),(2,ii)],[c3,.row 164]⟩
def zks:List (XK×Sig):=[(.ret,⟨[(0,.agg [ii,.str,ii,ii,.row 2])],[c3,.row 164,.row 116]⟩)]
def zsb:Nat→Option Hint:=hfind []
def zkt:Sig:=⟨[(0,.pc 0 0)],[c3,.row 164]⟩
def zku:List (XK×Sig):=[(.ret,⟨[(0,.agg [ii,.str,ii,ii,.row 2])],[c3,.row 164,.row 116]⟩)]
def zsc:Nat→Option Hint:=hfind [(3,.draw (od [1,3,5,7,9,11,13,15,17,19,21,23]) []),(8,.draw (od [1,3,5,7,9,11,13,15,17,19,21,23]) []),(9,.cut [(.normal,⟨[(0,.pc 0 0),(2,.pc 2 0),(3,ii),(4,.str)],[c3,.row 164,c1]⟩)]),(10,.draw (od [1,3,5,7,9,11,13,15,17,19,21,23]) []),(20,.cut [(.ret,⟨[(2,.pc 2 0)],[c3,.row 164,c18,.row 116]⟩),(.normal,⟨[(0,.pc 0 0),(2,.pc 2 0),(5,.pc 3 0)],[c3,.row 164,c1,c8,.row 116]⟩)]),(32,.cut [(.normal,⟨[(2,.pc 2 0),(5,.pc 3 0),(6,.pc 4 0)],[c3,.row 164,c1,c51,.cell [ii,.str,ii,ii,.row 6],.row 116,.row 116]⟩)]),(50,.cut [(.normal,⟨[(0,.pc 0 0),(2,.pc 2 0),(5,.pc 3 0)],[c3,.row 164,c1,c8,.row 116]⟩)]),(61,.cut [(.normal,⟨[(0,.pc 0 0),(2,.pc 2 0),(4,.str),(5,.pc 3 0),(49,.str),(108,.bool)],[c3,.row 164,c1,c1]⟩)]),(64,.cut [(.normal,⟨[(0,.pc 0 0),(2,.pc 2 0),(5,.pc 3 0)],[c3,.row 164,c1,c8,.row 116]⟩)]),(74,.cut [(.normal,⟨[(0,.pc 0 0),(2,.pc 2 0),(5,.pc 3 0),(9,.pc 4 0)],[c3,.row 164,c1,c1,c1]⟩)]),(86,.cut [(.normal,⟨[(0,.pc 0 0),(2,.pc 2 0),(5,.pc 3 0)],[c3,.row 164,c1,c8,.row 116]⟩)]),(95,.cut [(.normal,⟨[(0,.pc 0 0),(2,.pc 2 0),(5,.pc 3 0)],[c3,.row 164,c1,c8,.row 116]⟩)]),(102,.cut [(.normal,⟨[(0,.pc 0 0),(2,.pc 2 0),(5,.pc 3 0)],[c3,.row 164,c1,c8,.row 116]⟩)]),(108,.cut [(.normal,⟨[(0,.pc 0 0),(2,.pc 2 0),(5,.pc 3 0)],[c3,.row 164,c1,c8,.row 116]⟩)])]
def wu:Sig:=⟨[(0,.pc 0 0)],[c3,.row 164]⟩
def wv:List (XK×Sig):=[(.ret,⟨[(0,.agg [ii,.str,ii,ii,.row 2])],[c3,.row 164,.row 116]⟩)]
def zsd:Nat→Option Hint:=hfind [(3,.draw (od [1,3,5,7,9,11,13,15,17,19,21,23,24,26]) []),(8,.cut [(.normal,⟨[(0,.pc 0 0),(2,.pc 2 0),(3,.pc 3 0),(28,.bool)],[c3,.row 164,c1,c1]⟩)]),(9,.cut [(.normal,⟨[(0,.pc 0 0),(2,.pc 2 0),(3,.pc 3 0)],[c3,.row 164,c1,c1]⟩)]),(18,.loop ⟨[(0,.pc 0 0),(2,.pc 2 0),(3,.pc 3 0)],[c3,.row 164,c1,c8,.row 116]⟩ [(.exit 0,⟨[(0,.pc 0 0),(2,.pc 2 0),(3,.pc 3 0)],[c3,.row 164,c1,c8,.row 116]⟩)])]
noncomputable def zc1 (h:wu.ty CC→Option (zk CC wv)):Spec CC:=⟨95,1,wu,wv,h⟩
noncomputable def zkv (h:wu.ty CC→Option (zk CC wv)) (x:zkr.ty CC):Option (zk CC zks):=wT ⟨false⟩ [P97,zc1 h] lpO Tryz.prog Tryz.f175 1 zkr zks zsb x
noncomputable def zpT (h:wu.ty CC→Option (zk CC wv)):Spec CC:=⟨175,1,zkr,zks,zkv h⟩
theorem ztG {h:wu.ty CC→Option (zk CC wv)}(hh:Spec.OK Tryz.prog (zc1 h)):Spec.OK Tryz.prog (zpT h):=yM (za K97 (za hh zi)) ZF ZE zsb (by kernel_rfl) (by kernel_rfl) (by kernel_rfl) fun x=>rfl
noncomputable def zkw (h:wu.ty CC→Option (zk CC wv)) (x:zkt.ty CC):Option (zk CC zku):=wT ⟨false⟩ [zpT h,P88,zc1 h,P90,P91,P93,P87,P95,P98,zol] lpO Tryz.prog Tryz.f139 1 zkt zku zsc x
noncomputable def zpU (h:wu.ty CC→Option (zk CC wv)):Spec CC:=⟨139,1,zkt,zku,zkw h⟩
theorem ztH {h:wu.ty CC→Option (zk CC wv)}(hh:Spec.OK Tryz.prog (zc1 h)):Spec.OK Tryz.prog (zpU h):=yM (za (ztG hh) (za K88 (za hh (za K90 (za K91 (za K93 (za K87 (za K95 (za K98 (za zt5 zi)))))))))) ZF ZE zsc (by kernel_rfl) (by kernel_rfl) (by kernel_rfl) fun x=>rfl
noncomputable def zkx (h:wu.ty CC→Option (zk CC wv)) (x:wu.ty CC):Option (zk CC wv):=wT ⟨false⟩ [P87,P89,P91,P88,zpU h] lpO Tryz.prog Tryz.f95 1 wu wv zsd x
noncomputable def ztI (h:wu.ty CC→Option (zk CC wv)):Spec CC:=⟨95,1,wu,wv,zkx h⟩
theorem ztJ {h:wu.ty CC→Option (zk CC wv)}(hh:Spec.OK Tryz.prog (zc1 h)):Spec.OK Tryz.prog (ztI h):=yM (za K87 (za K89 (za K91 (za K88 (za (ztH hh) zi))))) ZF ZE zsd (by kernel_rfl) (by kernel_rfl) (by kernel_rfl) fun x=>rfl
noncomputable def zc2:Nat→wu.ty CC→Option (zk CC wv)
  |0=>fun _=>none
  |k+1=>zkx (zc2 k)
theorem zpV:∀ k,Spec.OK Tryz.prog (zc1 (zc2 k))
  |0=>⟨Tryz.f95,by kernel_rfl,by kernel_rfl,by kernel_rfl,fun x r h=>by cases h⟩
  |k+1=>ztJ (zpV k)
noncomputable def zt6 (x:zkr.ty CC):Option (zk CC zks):=zkv (zc2 100000) x
noncomputable def zt7 (x:zkt.ty CC):Option (zk CC zku):=zkw (zc2 100000) x
noncomputable def zse (x:wu.ty CC):Option (zk CC wv):=zc2 100000 x
noncomputable def zsf:Spec CC:=⟨95,1,wu,wv,zse⟩
theorem zt8:Spec.OK Tryz.prog zsf:=zpV 100000
noncomputable def zom:=spA false [P90,P91,P88,P92,P87,P89,zsf] 53 1 Tryz.f53 ⟨[(0,.pc 0 0),(1,ii)],[c3,.row 164]⟩ [(.ret,⟨[(0,.agg [ii,.str,ii,ii,.row 2])],[c3,.row 164,.row 116]⟩)] (hfind [(14,.loop ⟨[(0,.pc 0 0),(4,.pc 2 0),(5,.pc 3 0),(6,.bool)],[c3,.row 164,c1,c8,.row 116]⟩ [(.exit 0,⟨[(0,.pc 0 0),(4,.pc 2 0),(5,.pc 3 0)],[c3,.row 164,c1,c8,.row 116]⟩)]),(17,.cut [(.normal,⟨[(0,.pc 0 0),(4,.pc 2 0),(5,.pc 3 0),(6,.bool),(31,.bool)],[c3,.row 164,c1,c8,.row 116]⟩)]),(38,.cut [(.normal,⟨[(0,.pc 0 0),(4,.pc 2 0),(5,.pc 3 0),(6,.bool)],[c3,.row 164,c1,c8,.row 116]⟩)]),(44,.draw (od [1,3,5,7,9,11,13,15,17,19,21,23,24,26]) []),(50,.cut [(.normal,⟨[(0,.pc 0 0),(4,.pc 2 0),(5,.pc 3 0),(10,.pc 4 0)],[c3,.row 164,c1,c51,c7,.row 116]⟩)]),(56,.cut [(.normal,⟨[(0,.pc 0 0),(4,.pc 2 0),(5,.pc 3 0),(10,.pc 4 0)],[c3,.row 164,c1,c51,c1,.row 116]⟩)])])
theorem zt9:zom.OK Tryz.prog:=kA (za K90 (za K91 (za K88 (za K92 (za K87 (za K89 (za zt8 zi))))))) (by kernel_rfl)
noncomputable def zon:=spA false [P88,P90,P89] 96 1 Tryz.f96 ⟨[(0,.pc 0 0)],[c3,.row 164]⟩ [(.ret,⟨[(0,.val 116)],[c3,.row 164]⟩)] (hfind [(3,.draw (od [1,3,5,7,9,11,13,15,17,19,21,23,25,27,29,31,33,35,37,39,41,43,45,46,48]) []),(30,.loop ⟨[(0,.pc 0 0),(2,.pc 2 0),(3,.pc 3 0),(6,.row 4),(7,ii)],[c3,.row 164,c1,c1,.row 9]⟩ [(.ret,⟨[(2,.pc 2 0)],[c3,.row 164,c18,.row 116]⟩),(.exit 0,⟨[(0,.pc 0 0),(2,.pc 2 0),(3,.pc 3 0)],[c3,.row 164,c1,c1]⟩)])])
theorem zua:zon.OK Tryz.prog:=kA (za K88 (za K90 (za K89 zi))) (by kernel_rfl)
noncomputable def zoo:=spA false [P90,P88,P91] 97 1 Tryz.f97 ⟨[(0,.pc 0 0)],[c3,.row 164]⟩ [(.ret,⟨[(0,.agg [ii,.str,ii,ii,.row 2])],[c3,.row 164,.row 116]⟩)] (hfind [(11,.cut [(.normal,⟨[(2,.pc 2 0),(3,.pc 3 0)],[c3,.row 164,c1,c8,.row 116]⟩)])])
theorem zub:zoo.OK Tryz.prog:=kA (za K90 (za K88 (za K91 zi))) (by kernel_rfl)
noncomputable def zop:=spA false [P90,zon,P88,zoo,P91,P97] 55 1 Tryz.f55 ⟨[(0,.pc 0 0),(1,ii)],[c3,.row 164]⟩ [(.ret,⟨[(0,.agg [ii,.str,ii,ii,.row 2])],[c3,.row 164,.row 116]⟩)] (hfind [(16,.loop ⟨[(0,.pc 0 0),(4,.pc 2 0),(5,.pc 3 0),(7,.bool)],[c3,.row 164,c1,c8,.row 116]⟩ [(.exit 0,⟨[(0,.pc 0 0),(4,.pc 2 0),(5,.pc 3 0)],[c3,.row 164,c1,c8,.row 116]⟩)]),(32,.cut [(.normal,⟨[(0,.pc 0 0),(4,.pc 2 0),(5,.pc 3 0),(7,.bool)],[c3,.row 164,c1,c8,.row 116]⟩)]),(39,.loop ⟨[(0,.pc 0 0),(4,.pc 2 0),(5,.pc 3 0),(9,.bool)],[c3,.row 164,c1,c8,.row 116]⟩ [(.exit 2,⟨[(0,.pc 0 0),(4,.pc 2 0),(5,.pc 3 0)],[c3,.row 164,c1,c8,.row 116]⟩)])])
theorem zuc:zop.OK Tryz.prog:=kA (za K90 (za zua (za K88 (za zub (za K91 (za K97 zi)))))) (by kernel_rfl)
def VD:Sig:=⟨[(0,.val 116)],[]⟩
def VE:List (XK×Sig):=[(.ret,⟨[(0,ii)],[]⟩)]
def zsg:Nat→Option Hint:=hfind [(8,.loop ⟨[(1,.pc 0 0),(3,ii),(4,ii)],[c7]⟩ [(.exit 0,⟨[(3,ii)],[]⟩)])]
noncomputable def zky (h:VD.ty CC→Option (zk CC VE)):Spec CC:=⟨56,1,VD,VE,h⟩
noncomputable def zkz (h:VD.ty CC→Option (zk CC VE)) (x:VD.ty CC):Option (zk CC VE):=wT ⟨false⟩ [zky h] lpO Tryz.prog Tryz.f56 1 VD VE zsg x
noncomputable def ztK (h:VD.ty CC→Option (zk CC VE)):Spec CC:=⟨56,1,VD,VE,zkz h⟩
theorem ztL {h:VD.ty CC→Option (zk CC VE)}(hh:Spec.OK Tryz.prog (zky h)):Spec.OK Tryz.prog (ztK h):=yM (za hh zi) ZF ZE zsg (by kernel_rfl) (by kernel_rfl) (by kernel_rfl) fun x=>rfl
noncomputable def zgx:Nat→VD.ty CC→Option (zk CC VE)
  |0=>fun _=>none
  |k+1=>zkz (zgx k)
theorem zpW:∀ k,Spec.OK Tryz.prog (zky (zgx k))
  |0=>⟨Tryz.f56,by kernel_rfl,by kernel_rfl,by kernel_rfl,fun x r h=>by cases h⟩
  |k+1=>ztL (zpW k)
noncomputable def zsh (x:VD.ty CC):Option (zk CC VE):=zgx 100000 x
noncomputable def zsi:Spec CC:=⟨56,1,VD,VE,zsh⟩
theorem zud:Spec.OK Tryz.prog zsi:=zpW 100000
noncomputable def zkA:=spA false [P86,P88,zom,P91,zop,zsi] 29 3 Tryz.f29 ⟨[(0,.str)],[]⟩ [(.ret,⟨[(0,.val 116),(1,ii),(2,ii)],[]⟩)] (hfind [(18,.loop ⟨[(2,.pc 0 0),(8,.pc 1 0),(9,.pc 2 0)],[c1,c39,c8,.row 164,.row 116]⟩ [(.exit 0,⟨[(2,.pc 0 0),(8,.pc 1 0),(9,.pc 2 0)],[c1,c39,c8,.row 164,.row 116]⟩)]),(21,.draw (od [1,3,5,7,9,11,13,15,17,19,21,23,25,27,29,31,33,35,37]) [(.normal,⟨[(2,.pc 0 0),(8,.pc 1 0),(9,.pc 2 0),(48,.bool)],[c1,c39,c8,.row 164,.row 116]⟩)]),(25,.cut [(.normal,⟨[(2,.pc 0 0),(8,.pc 1 0),(9,.pc 2 0)],[c1,c39,c8,.row 164,.row 116]⟩)]),(27,.draw (od [1,3,5,7,9,11,13,15,17,19,21,23]) []),(44,.cut [(.normal,⟨[(2,.pc 0 0),(8,.pc 1 0),(9,.pc 2 0)],[c1,c39,c8,.row 164,.row 116]⟩)]),(54,.draw (od [1,3,5,7,9,11,13,15,17,18,21,23]) [])])
theorem zsj:zkA.OK Tryz.prog:=kA (za K86 (za K88 (za zt9 (za K91 (za zuc (za zud zi)))))) (by kernel_rfl)
noncomputable def zoq:=spA false [] 123 1 Tryz.f123 ⟨[(0,.val 116),(1,ii)],[]⟩ [(.ret,⟨[(0,.row 0)],[.row 116]⟩)] (hfind [(8,.loop ⟨[(1,ii),(2,.pc 0 0),(5,.row 1),(6,ii)],[c7,.row 116]⟩ [(.exit 0,⟨[(5,.row 0)],[.row 116]⟩)]),(19,.cut [(.normal,⟨[(1,ii),(2,.pc 0 0),(5,.row 1),(6,ii)],[c7,.row 116]⟩)])])
theorem zue:zoq.OK Tryz.prog:=kA zi (by kernel_rfl)
noncomputable def zif:=spA false [] 108 1 Tryz.f108 ⟨[(0,.sl 100),(1,.str)],[]⟩ [(.ret,⟨[(0,ii)],[]⟩)] (hfind [(6,.loop ⟨[(0,.sl 100),(1,.str),(5,ii)],[]⟩ [(.ret,⟨[(4,ii)],[]⟩),(.exit 0,⟨[],[]⟩)])])
theorem zor:zif.OK Tryz.prog:=kA zi (by kernel_rfl)
noncomputable def zos:=spA false [] 124 1 Tryz.f124 ⟨[(0,.sl 116),(1,.str)],[]⟩ [(.ret,⟨[(0,ii)],[]⟩)] (hfind [(6,.loop ⟨[(0,.sl 116),(1,.str),(5,ii)],[]⟩ [(.ret,⟨[(4,ii)],[]⟩),(.exit 0,⟨[],[]⟩)]),(16,.cut [(.normal,⟨[(0,.sl 116),(1,.str),(5,ii),(27,.bool)],[]⟩)])])
theorem zuf:zos.OK Tryz.prog:=kA zi (by kernel_rfl)
noncomputable def zot:=spA false [] 125 1 Tryz.f125 ⟨[(0,.str),(1,ii),(2,ii),(3,ii),(4,ii)],[]⟩ [(.ret,⟨[(0,.row 0)],[.row 241]⟩)] (hfind [(7,.cut [(.normal,⟨[(0,.str),(1,ii),(2,ii),(3,ii),(4,ii),(11,.row 0)],[.row 241]⟩)]),(12,.cut [(.normal,⟨[(0,.str),(1,ii),(2,ii),(3,ii),(4,ii),(11,.row 0),(29,.bool)],[.row 241]⟩)]),(13,.cut [(.normal,⟨[(0,.str),(1,ii),(2,ii),(3,ii),(4,ii),(11,.row 0)],[.row 241]⟩)]),(19,.cut [(.normal,⟨[(11,.row 0)],[.row 241]⟩)])])
theorem zug:zot.OK Tryz.prog:=kA zi (by kernel_rfl)
noncomputable def zou:=spA false [zoq,zif,zos,zot] 70 3 Tryz.f70 ⟨[(0,.row 0),(1,.val 116)],[.row 100]⟩ [(.ret,⟨[(0,.val 100),(1,ii),(2,ii)],[.row 100]⟩)] (hfind [(17,.draw (od [1,3,5,6,9,11]) []),(25,.draw (od [1,3,5,6,9,11]) []),(32,.loop ⟨[(0,.row 0),(4,.pc 1 0),(7,.row 2),(8,.row 3),(9,.pc 4 0),(10,.pc 5 0),(12,ii)],[.row 100,c10,.row 116,.row 116,c7,c27,.row 238]⟩ [(.ret,⟨[(4,.pc 1 0),(5,ii),(6,ii)],[.row 100,c24,.row 238]⟩),(.exit 0,⟨[(0,.row 0),(4,.pc 1 0),(7,.row 2),(8,.row 3),(9,.pc 4 0),(10,.pc 5 0)],[.row 100,c10,.row 116,.row 116,c7,c27,.row 238]⟩)]),(40,.cut [(.ret,⟨[(4,.pc 1 0),(5,ii),(6,ii)],[.row 100,c24,.row 238]⟩),(.normal,⟨[(0,.row 0),(4,.pc 1 0),(7,.row 2),(8,.row 3),(9,.pc 4 0),(10,.pc 5 0),(12,ii)],[.row 100,c10,.row 116,.row 116,c7,c27,.row 238]⟩)]),(47,.loop ⟨[(0,.row 0),(4,.pc 1 0),(7,.row 2),(8,.row 3),(9,.pc 4 0),(10,.pc 5 0),(12,ii),(13,.pc 6 0),(14,ii)],[.row 100,c10,.row 116,.row 116,c7,c41,c7,.row 238]⟩ [(.ret,⟨[(4,.pc 1 0),(5,ii),(6,ii)],[.row 100,c24,.row 238]⟩),(.exit 2,⟨[(0,.row 0),(4,.pc 1 0),(7,.row 2),(8,.row 3),(9,.pc 4 0),(10,.pc 5 0),(12,ii),(13,.pc 6 0)],[.row 100,c10,.row 116,.row 116,c7,c41,c7,.row 238]⟩)]),(57,.draw (od [1,3,5,7,9,11,13,15]) []),(60,.draw (od [1,3,5,6,9,11]) []),(69,.cut [(.ret,⟨[(4,.pc 1 0),(5,ii),(6,ii)],[.row 100,c24,.row 238]⟩),(.normal,⟨[(0,.row 0),(4,.pc 1 0),(7,.row 2),(8,.row 3),(9,.pc 4 0),(10,.pc 5 0),(12,ii),(13,.pc 6 0),(15,ii)],[.row 100,c10,.row 116,.row 116,c7,c41,c7,.row 238]⟩)]),(73,.cut [(.normal,⟨[(0,.row 0),(4,.pc 1 0),(7,.row 2),(8,.row 3),(9,.pc 4 0),(10,.pc 5 0),(12,ii),(13,.pc 6 0),(15,ii),(93,.bool)],[.row 100,c10,.row 116,.row 116,c7,c41,c7,.row 238]⟩)]),(76,.draw (od [1,3,5,6,9,11]) []),(90,.cut [(.normal,⟨[(4,.pc 1 0),(7,.row 2),(8,.row 3),(10,.pc 4 0),(16,ii)],[.row 100,c10,.row 116,.row 116,c32,.row 238]⟩),(.ret,⟨[(4,.pc 1 0),(5,ii),(6,ii)],[.row 100,c24,.row 238]⟩)]),(95,.cut [(.normal,⟨[(0,.row 0),(4,.pc 1 0),(7,.row 2),(8,.row 3),(9,.pc 4 0),(10,.pc 5 0),(16,ii),(107,.str),(111,.bool)],[.row 100,c10,.row 116,.row 116,c7,c27,.row 238]⟩)]),(98,.cut [(.ret,⟨[(4,.pc 1 0),(5,ii),(6,ii)],[.row 100,c24,.row 238]⟩),(.normal,⟨[(4,.pc 1 0),(7,.row 2),(8,.row 3),(10,.pc 4 0),(16,ii)],[.row 100,c10,.row 116,.row 116,c32,.row 238]⟩)]),(104,.cut [(.normal,⟨[(4,.pc 1 0),(7,.row 2),(8,.row 3),(9,.pc 4 0),(10,.pc 5 0)],[.row 100,c10,.row 116,.row 116,c7,c27,.row 238]⟩)]),(114,.draw (od [1,3,5,6,9,11]) []),(120,.cut [(.ret,⟨[(4,.pc 1 0),(5,ii),(6,ii)],[.row 100,c24,.row 238]⟩),(.normal,⟨[(4,.pc 1 0),(7,.row 2),(8,.row 3),(10,.pc 4 0),(16,ii)],[.row 100,c10,.row 116,.row 116,c32,.row 238]⟩)]),(130,.draw (od [1,3,5,6,9,11]) []),(138,.draw (od [1,3,5,6,9,11]) []),(142,.cut [(.normal,⟨[(4,.pc 1 0),(7,.row 2),(8,.row 3),(9,.pc 4 0),(10,.pc 5 0),(16,ii),(167,.bool)],[.row 100,c10,.row 116,.row 116,c7,c27,.row 238]⟩)]),(145,.draw (od [1,3,5,6,9,11]) []),(153,.loop ⟨[(4,.pc 1 0),(7,.row 2),(8,.row 3),(10,.pc 4 0),(16,ii),(17,ii)],[.row 100,c10,.row 116,.row 116,.cell [.str,ii,ii,.row 5,.row 6],.row 238,.row 241]⟩ [(.ret,⟨[(4,.pc 1 0),(5,ii),(6,ii)],[.row 100,c30,.row 238,.row 241]⟩),(.exit 5,⟨[(4,.pc 1 0),(10,.pc 2 0)],[.row 100,c10,.cell [.str,ii,ii,.row 3,.row 4],.row 238,.row 241]⟩)]),(168,.loop ⟨[(4,.pc 1 0),(7,.row 2),(8,.row 3),(10,.pc 4 0),(16,ii),(17,ii),(18,.row 5),(19,ii)],[.row 100,c10,.row 116,.row 116,c31,.row 3,.row 238,.row 241]⟩ [(.ret,⟨[(4,.pc 1 0),(5,ii),(6,ii)],[.row 100,c30,.row 238,.row 241]⟩),(.exit 7,⟨[(4,.pc 1 0),(7,.row 2),(8,.row 3),(10,.pc 4 0),(16,ii),(17,ii),(18,.row 5)],[.row 100,c10,.row 116,.row 116,c31,.row 3,.row 238,.row 241]⟩)]),(176,.cut [(.normal,⟨[(4,.pc 1 0),(7,.row 2),(8,.row 3),(10,.pc 4 0),(16,ii),(17,ii),(18,.row 5),(19,ii)],[.row 100,c10,.row 116,.row 116,c31,.row 3,.row 238,.row 241]⟩),(.ret,⟨[(4,.pc 1 0),(5,ii),(6,ii)],[.row 100,c30,.row 238,.row 241]⟩)]),(189,.cut [(.normal,⟨[(4,.pc 1 0),(7,.row 2),(8,.row 3),(10,.pc 4 0),(16,ii),(17,ii),(18,.row 5),(19,ii),(21,ii),(202,.bool)],[.row 100,c10,.row 116,.row 116,c31,.row 3,.row 238,.row 241]⟩)]),(192,.draw (od [1,3,5,7,9,11,12,15,17]) []),(198,.draw (od [1,3,5,7,9,11,13,15,17,19,21,23,25,27,29,31,33,35,37,39,41,43,45,47,49,51,53,54,57]) []),(202,.loop ⟨[(4,.pc 1 0),(7,.row 2),(8,.row 3),(10,.pc 4 0),(16,ii),(17,ii),(22,.row 5),(23,ii)],[.row 100,c10,.row 116,.row 116,c31,.row 241,.row 238,.row 241]⟩ [(.exit 9,⟨[(4,.pc 1 0),(7,.row 2),(8,.row 3),(10,.pc 4 0),(16,ii),(17,ii)],[.row 100,c10,.row 116,.row 116,.cell [.str,ii,ii,.row 5,.row 6],.row 238,.row 241]⟩)]),(211,.draw (od [1,3,5,7,9,11,12,14,17,18]) [])])
theorem zuh:zou.OK Tryz.prog:=kA (za zue (za zor (za zuf (za zug zi)))) (by kernel_rfl)
noncomputable def zov:=spA false [zou] 41 3 Tryz.f41 ⟨[(0,.val 116)],[]⟩ [(.ret,⟨[(0,.row 0),(1,ii),(2,ii)],[.row 100]⟩)] (hfind [(8,.loop ⟨[(1,.pc 0 0),(5,.row 1),(6,ii)],[c7,.row 100]⟩ [(.ret,⟨[(2,.nils),(3,ii),(4,ii)],[]⟩),(.exit 0,⟨[(5,.row 0)],[.row 100]⟩)]),(16,.cut [(.normal,⟨[(1,.pc 0 0),(5,.row 1),(6,ii)],[c7,.row 100]⟩),(.ret,⟨[(2,.nils),(3,ii),(4,ii)],[]⟩)])])
theorem zui:zov.OK Tryz.prog:=kA (za zuh zi) (by kernel_rfl)
noncomputable def zow:=spA false [zif] 126 2 Tryz.f126 ⟨[(0,.val 116),(1,.sl 100)],[]⟩ [(.ret,⟨[(0,.val 96),(1,.bool)],[]⟩)] (hfind [(10,.cut [(.normal,⟨[(1,.sl 100),(2,.pc 0 0),(4,.pc 1 0),(6,.pc 2 0)],[c7,c13,c13]⟩)]),(14,.cut [(.normal,⟨[(1,.sl 100),(2,.pc 0 0),(4,.pc 1 0),(6,.pc 2 0)],[c7,c13,c13]⟩)]),(18,.cut [(.normal,⟨[(1,.sl 100),(2,.pc 0 0),(4,.pc 1 0),(6,.pc 2 0)],[c7,c13,c13]⟩)]),(22,.cut [(.normal,⟨[(1,.sl 100),(2,.pc 0 0),(4,.pc 1 0),(6,.pc 2 0)],[c7,c13,c13]⟩)]),(28,.cut [(.ret,⟨[(4,.pc 0 0),(5,.bool)],[c13]⟩),(.normal,⟨[(4,.pc 0 0),(6,.pc 1 0)],[c13,c13]⟩)])])
theorem zuj:zow.OK Tryz.prog:=kA (za zor zi) (by kernel_rfl)
noncomputable def zox:=spA false [zow] 71 3 Tryz.f71 ⟨[(0,.val 116),(1,.sl 100)],[]⟩ [(.ret,⟨[(0,.val 198),(1,ii),(2,ii)],[]⟩)] (hfind [(11,.draw (od [1,3,5,6,9,11]) []),(18,.loop ⟨[(1,.sl 100),(2,.pc 0 0),(4,.pc 1 0),(7,.pc 2 0),(8,ii),(9,ii)],[c7,c17,c33,.row 96]⟩ [(.ret,⟨[(4,.pc 0 0),(5,ii),(6,ii)],[c17]⟩),(.exit 0,⟨[(1,.sl 100),(2,.pc 0 0),(4,.pc 1 0),(7,.pc 2 0),(8,ii)],[c7,c17,c33,.row 96]⟩)]),(26,.cut [(.ret,⟨[(4,.pc 0 0),(5,ii),(6,ii)],[c17]⟩),(.normal,⟨[(1,.sl 100),(2,.pc 0 0),(4,.pc 1 0),(7,.pc 2 0),(8,ii),(9,ii)],[c7,c17,c33,.row 96]⟩)]),(33,.loop ⟨[(1,.sl 100),(2,.pc 0 0),(4,.pc 1 0),(7,.pc 2 0),(8,ii),(9,ii),(10,.pc 3 0),(11,ii)],[c7,c17,c42,c7,.row 96]⟩ [(.ret,⟨[(4,.pc 0 0),(5,ii),(6,ii)],[c17]⟩),(.exit 2,⟨[(1,.sl 100),(2,.pc 0 0),(4,.pc 1 0),(7,.pc 2 0),(8,ii),(9,ii),(10,.pc 3 0)],[c7,c17,c42,c7,.row 96]⟩)]),(43,.draw (od [1,3,5,7,9,11,13,15,17]) []),(46,.draw (od [1,3,5,6,9,11]) []),(57,.draw (od [1,3,5,7,9,11,12,15,17]) []),(64,.loop ⟨[(1,.sl 100),(2,.pc 0 0),(4,.pc 1 0),(7,.pc 2 0),(8,ii),(9,ii),(10,.pc 3 0),(12,.pc 4 0),(14,ii)],[c7,c17,c43,c7,c13,.row 96]⟩ [(.ret,⟨[(4,.pc 0 0),(5,ii),(6,ii)],[c17]⟩),(.exit 4,⟨[(1,.sl 100),(2,.pc 0 0),(4,.pc 1 0),(7,.pc 2 0),(8,ii),(9,ii),(10,.pc 3 0),(12,.pc 4 0)],[c7,c17,c43,c7,c13,.row 96]⟩)]),(76,.cut [(.normal,⟨[(1,.sl 100),(2,.pc 0 0),(4,.pc 1 0),(7,.pc 2 0),(8,ii),(9,ii),(10,.pc 3 0),(12,.pc 4 0),(14,ii),(107,.bool)],[c7,c17,c43,c7,c13,.row 96]⟩)]),(79,.draw (od [1,3,5,7,9,11,12,15,17]) []),(94,.draw (od [1,3,5,7,9,11,13,14,17,19]) [])])
theorem zuk:zox.OK Tryz.prog:=kA (za zuj zi) (by kernel_rfl)
noncomputable def zoy:=spA false [zox] 42 3 Tryz.f42 ⟨[(0,.val 116),(1,.sl 100)],[]⟩ [(.ret,⟨[(0,.row 0),(1,ii),(2,ii)],[.row 198]⟩)] (hfind [(8,.loop ⟨[(1,.sl 100),(2,.pc 0 0),(7,.row 1),(8,ii)],[c7,.row 198]⟩ [(.ret,⟨[(4,.nils),(5,ii),(6,ii)],[]⟩),(.exit 0,⟨[(7,.row 0)],[.row 198]⟩)]),(16,.cut [(.normal,⟨[(1,.sl 100),(2,.pc 0 0),(7,.row 1),(8,ii)],[c7,.row 198]⟩),(.ret,⟨[(4,.nils),(5,ii),(6,ii)],[]⟩)])])
theorem zul:zoy.OK Tryz.prog:=kA (za zuk zi) (by kernel_rfl)
noncomputable def zoz:=spA false [P50,P70,P80,zkA,zov,zoy] 27 2 Tryz.f27 ⟨[(0,.str)],[]⟩ [(.ret,⟨[(0,.val 71),(1,.bool)],[]⟩)] (hfind [(28,.loop ⟨[(2,.pc 0 0),(9,ii),(10,.row 1),(12,ii),(13,.pc 2 0),(19,.row 3),(22,.pc 4 0),(72,.sl 112),(73,ii),(74,ii)],[c21,.row 130,c7,.row 198,.cell [.row 5,.sl 65,.row 1,.row 6,.sl 100,.row 3],.row 112,.row 116]⟩ [(.exit 0,⟨[(2,.pc 0 0),(9,ii),(10,.row 1),(12,ii),(19,.row 2),(22,.pc 3 0)],[c21,.row 130,.row 198,.cell [.row 4,.sl 65,.row 1,.row 5,.sl 100,.row 2],.row 112,.row 116]⟩)]),(41,.cut [(.normal,⟨[(2,.pc 0 0),(9,ii),(10,.row 1),(12,ii),(13,.pc 2 0),(19,.row 3),(22,.pc 4 0),(72,.sl 112),(73,ii),(74,ii)],[c21,.row 130,c7,.row 198,.cell [.row 5,.sl 65,.row 1,.row 6,.sl 100,.row 3],.row 112,.row 116]⟩)]),(44,.draw (od [1,3,5,7,9,11,13,14,16,19,20]) []),(48,.draw (od [1,3,5,7,9,11,13,15,17,19,21,23,25,27,29,31,33,35,37,39,41,43,45,46,49]) [(.normal,⟨[(2,.pc 0 0),(3,.bool)],[.cell [.row 1,.sl 65,.row 2,.row 3,.sl 100,.row 4],.row 112,.row 130,.row 116,.row 198]⟩)])])
theorem zum:zoz.OK Tryz.prog:=kA (za K50 (za K70 (za K80 (za zsj (za zui (za zul zi)))))) (by kernel_rfl)
noncomputable def zkB:=spA false [] 99 0 Tryz.f99 ⟨[(0,.pc 0 0),(1,.bool),(2,ii)],[c15,.forow 33]⟩ [(.pan (.ifc 170 (.agg [ii,ii])),⟨[],[c15,.forow 33]⟩),(.ret,⟨[],[c15,.forow 33]⟩)] (hfind [])
theorem zsk:zkB.OK Tryz.prog:=kA zi (by kernel_rfl)
noncomputable def zkC:=spA false [zkB] 58 0 Tryz.f58 ⟨[(0,.pc 0 0),(1,.val 112),(2,.bool),(3,ii)],[c15,.forow 33]⟩ [(.pan (.ifc 170 (.agg [ii,ii])),⟨[],[c15,.forow 33]⟩),(.ret,⟨[],[c15,.forow 33]⟩)] (hfind [])
theorem zsl:zkC.OK Tryz.prog:=kA (za zsk zi) (by kernel_rfl)
noncomputable def zoA:=spA false [] 38 1 Tryz.f38 ⟨[(0,.val 61),(1,.pc 0 0)],[c20]⟩ [(.ret,⟨[(0,.bool)],[c20]⟩)] (hfind [])
theorem zun:zoA.OK Tryz.prog:=kA zi (by kernel_rfl)
noncomputable def zoB:=spA false [zoA] 34 1 Tryz.f34 ⟨[(0,.sl 61),(1,.clo 38 [.pc 0 0])],[c20]⟩ [(.ret,⟨[(0,ii)],[c20]⟩)] (hfind [(6,.loop ⟨[(0,.sl 61),(1,.clo 38 [.pc 0 0]),(7,ii),(8,ii)],[c20]⟩ [(.ret,⟨[(4,ii)],[c20]⟩),(.exit 0,⟨[],[c20]⟩)])])
theorem zuo:zoB.OK Tryz.prog:=kA (za zun zi) (by kernel_rfl)
noncomputable def zig:=spA false [zoB] 25 1 Tryz.f25 ⟨[(0,.val 33),(1,.str)],[]⟩ [(.ret,⟨[(0,ii)],[]⟩)] (hfind [])
theorem zoC:zig.OK Tryz.prog:=kA (za zuo zi) (by kernel_rfl)
noncomputable def zoD:=spA false [zkC,zig,P54,zkB] 59 1 Tryz.f59 ⟨[(0,.pc 0 0),(1,.val 112)],[c15,.forow 33]⟩ [(.pan (.ifc 170 (.agg [ii,ii])),⟨[],[c15,.forow 33]⟩),(.ret,⟨[(0,.agg [.str,ii,.row 2])],[c15,.forow 33,.row 61]⟩)] (hfind [(12,.loop ⟨[(0,.pc 0 0),(3,.pc 2 0),(4,.pc 3 0),(5,ii),(6,.pc 4 0),(27,.sl 112),(28,ii),(29,ii)],[c15,.forow 33,c6,c23,c46,.row 61]⟩ [(.pan (.ifc 170 (.agg [ii,ii])),⟨[],[c15,.forow 33]⟩),(.exit 0,⟨[(0,.pc 0 0),(3,.pc 2 0),(4,.pc 3 0),(5,ii),(6,.pc 4 0)],[c15,.forow 33,c6,c23,c46,.row 61]⟩)]),(20,.cut [(.pan (.ifc 170 (.agg [ii,ii])),⟨[],[c15,.forow 33]⟩),(.normal,⟨[(0,.pc 0 0),(3,.pc 2 0),(4,.pc 3 0),(5,ii),(6,.pc 4 0),(27,.sl 112),(28,ii),(29,ii)],[c15,.forow 33,c6,c23,c46,.row 61]⟩)]),(26,.draw (od [1,3,5,7,9,10,13,14]) []),(28,.cut [(.pan (.ifc 170 (.agg [ii,ii])),⟨[],[c15,.forow 33]⟩),(.normal,⟨[(0,.pc 0 0),(3,.pc 2 0),(4,.pc 3 0),(5,ii),(6,.pc 4 0),(8,.pc 5 0),(9,.pc 6 0),(27,.sl 112),(28,ii),(29,ii)],[c15,.forow 33,c6,c23,c52,c6,c6,.row 61]⟩)]),(34,.cut [(.pan (.ifc 170 (.agg [ii,ii])),⟨[],[c15,.forow 33]⟩),(.normal,⟨[(0,.pc 0 0),(3,.pc 2 0),(4,.pc 3 0),(5,ii),(6,.pc 4 0),(10,.pc 5 0),(27,.sl 112),(28,ii),(29,ii)],[c15,.forow 33,c6,c23,c54,c9,.row 61]⟩)]),(36,.draw (od [1,3,5,7,9,11,13,15,17,21,18,22,25,26]) []),(42,.draw (od [1,3,5,7,9,11,13,15,17,19,21,23,25,26]) [])])
theorem zup:zoD.OK Tryz.prog:=kA (za zsl (za zoC (za K54 (za zsk zi)))) (by kernel_rfl)
noncomputable def VF:=spA false [] 99 0 Tryz.f99 ⟨[(0,.pc 0 0),(1,.bool),(2,ii)],[c0,.forow 33]⟩ [(.pan (.ifc 170 (.agg [ii,ii])),⟨[],[c0,.forow 33]⟩),(.ret,⟨[],[c0,.forow 33]⟩)] (hfind [])
theorem zbC:VF.OK Tryz.prog:=kA zi (by kernel_rfl)
noncomputable def zkD:=spA false [zig,VF] 144 1 Tryz.f144 ⟨[(0,.pc 0 0),(1,.str)],[c0,.forow 33]⟩ [(.pan (.ifc 170 (.agg [ii,ii])),⟨[],[c0,.forow 33]⟩),(.ret,⟨[(0,.val 61)],[c0,.forow 33]⟩)] (hfind [])
theorem zsm:zkD.OK Tryz.prog:=kA (za zoC (za zbC zi)) (by kernel_rfl)
noncomputable def zoE:=spA false [] 145 1 Tryz.f145 ⟨[(0,.val 130),(1,.pc 0 0)],[c6]⟩ [(.ret,⟨[(0,.bool)],[c6]⟩)] (hfind [])
theorem zuq:zoE.OK Tryz.prog:=kA zi (by kernel_rfl)
noncomputable def zoF:=spA false [zoE] 35 1 Tryz.f35 ⟨[(0,.sl 130),(1,.clo 145 [.pc 0 0])],[c6]⟩ [(.ret,⟨[(0,ii)],[c6]⟩)] (hfind [(6,.loop ⟨[(0,.sl 130),(1,.clo 145 [.pc 0 0]),(7,ii),(8,ii)],[c6]⟩ [(.ret,⟨[(4,ii)],[c6]⟩),(.exit 0,⟨[],[c6]⟩)])])
theorem zur:zoF.OK Tryz.prog:=kA (za zuq zi) (by kernel_rfl)
noncomputable def zih:=spA false [VF,zkD] 106 0 Tryz.f106 ⟨[(0,.pc 0 0),(1,.val 112),(2,.val 61)],[c0,.forow 33]⟩ [(.pan (.ifc 170 (.agg [ii,ii])),⟨[],[c0,.forow 33]⟩),(.ret,⟨[],[c0,.forow 33]⟩)] (hfind [(15,.cut [(.pan (.ifc 170 (.agg [ii,ii])),⟨[],[c0,.forow 33]⟩),(.normal,⟨[],[c0,.forow 33]⟩)]),(18,.cut [(.normal,⟨[(0,.pc 0 0),(4,.pc 2 0),(5,.pc 3 0),(6,.pc 4 0),(47,.bool)],[c0,.forow 33,c6,c9,c9]⟩)]),(19,.cut [(.pan (.ifc 170 (.agg [ii,ii])),⟨[],[c0,.forow 33]⟩),(.normal,⟨[],[c0,.forow 33]⟩)]),(20,.cut [(.pan (.ifc 170 (.agg [ii,ii])),⟨[],[c0,.forow 33]⟩),(.normal,⟨[],[c0,.forow 33]⟩)]),(21,.cut [(.pan (.ifc 170 (.agg [ii,ii])),⟨[],[c0,.forow 33]⟩),(.normal,⟨[],[c0,.forow 33]⟩)])])
theorem zoG:zih.OK Tryz.prog:=kA (za zbC (za zsm zi)) (by kernel_rfl)
noncomputable def zoH:=spA false [VF,zih] 105 0 Tryz.f105 ⟨[(0,.pc 0 0),(1,.sl 112),(2,.sl 61)],[c0,.forow 33]⟩ [(.pan (.ifc 170 (.agg [ii,ii])),⟨[],[c0,.forow 33]⟩),(.ret,⟨[],[c0,.forow 33]⟩)] (hfind [(5,.loop ⟨[(0,.pc 0 0),(2,.sl 61),(15,.sl 112),(16,ii),(17,ii)],[c0,.forow 33]⟩ [(.pan (.ifc 170 (.agg [ii,ii])),⟨[],[c0,.forow 33]⟩),(.exit 0,⟨[],[c0,.forow 33]⟩)]),(16,.draw (od [1,3,5,7,9,11,12]) [])])
theorem zus:zoH.OK Tryz.prog:=kA (za zbC (za zoG zi)) (by kernel_rfl)
noncomputable def zkE:=spA false [zoF,VF,zoH] 103 1 Tryz.f103 ⟨[(0,.pc 0 0),(1,.val 112)],[c0,.forow 33]⟩ [(.pan (.ifc 170 (.agg [ii,ii])),⟨[],[c0,.forow 33]⟩),(.ret,⟨[(0,.val 61)],[c0,.forow 33]⟩)] (hfind [(7,.draw (od [1,3,5,7,9,11,13,15,17,19,21,22]) [])])
theorem zsn:zkE.OK Tryz.prog:=kA (za zur (za zbC (za zus zi))) (by kernel_rfl)
noncomputable def zoI:=spA false [zkD,VF,zkE] 102 1 Tryz.f102 ⟨[(0,.pc 0 0),(1,.val 112)],[c0,.forow 33]⟩ [(.ret,⟨[(0,.val 61)],[c0,.forow 33]⟩),(.pan (.ifc 170 (.agg [ii,ii])),⟨[],[c0,.forow 33]⟩)] (hfind [(10,.cut [(.ret,⟨[(4,.pc 2 0)],[c0,.forow 33,c9]⟩),(.pan (.ifc 170 (.agg [ii,ii])),⟨[],[c0,.forow 33]⟩),(.normal,⟨[(0,.pc 0 0),(4,.pc 2 0),(5,.pc 3 0)],[c0,.forow 33,c9,c9]⟩)]),(22,.cut [(.pan (.ifc 170 (.agg [ii,ii])),⟨[],[c0,.forow 33]⟩),(.normal,⟨[(4,.pc 2 0),(6,.pc 3 0)],[c0,.forow 33,c9,c9]⟩)]),(29,.cut [(.normal,⟨[(0,.pc 0 0),(3,.pc 2 0),(4,.pc 3 0),(5,.pc 4 0),(13,ii),(35,.bool)],[c0,.forow 33,c6,c9,c9]⟩)]),(32,.cut [(.pan (.ifc 170 (.agg [ii,ii])),⟨[],[c0,.forow 33]⟩),(.ret,⟨[(4,.pc 2 0)],[c0,.forow 33,c9]⟩),(.normal,⟨[(0,.pc 0 0),(4,.pc 2 0),(5,.pc 3 0)],[c0,.forow 33,c9,c9]⟩)]),(34,.draw (od [1,3,5,7,9,11,15,17,19,21,23,25,12,26,28,30,32,34]) [(.pan (.ifc 170 (.agg [ii,ii])),⟨[],[c0,.forow 33]⟩),(.normal,⟨[(0,.pc 0 0),(4,.pc 2 0),(5,.pc 3 0),(7,.pc 4 0),(8,.pc 5 0)],[c0,.forow 33,c9,c9,c9,c9]⟩)]),(36,.cut [(.pan (.ifc 170 (.agg [ii,ii])),⟨[],[c0,.forow 33]⟩),(.normal,⟨[(4,.pc 2 0),(5,.pc 3 0)],[c0,.forow 33,c9,c9]⟩)]),(43,.cut [(.normal,⟨[(0,.pc 0 0),(3,.pc 2 0),(4,.pc 3 0),(5,.pc 4 0),(13,ii),(63,.bool)],[c0,.forow 33,c6,c9,c9]⟩)]),(46,.cut [(.pan (.ifc 170 (.agg [ii,ii])),⟨[],[c0,.forow 33]⟩),(.ret,⟨[(4,.pc 2 0)],[c0,.forow 33,c9]⟩),(.normal,⟨[(0,.pc 0 0),(4,.pc 2 0),(5,.pc 3 0)],[c0,.forow 33,c9,c9]⟩)]),(56,.cut [(.normal,⟨[(4,.pc 2 0),(9,.pc 3 0)],[c0,.forow 33,c9,c9]⟩)]),(64,.cut [(.pan (.ifc 170 (.agg [ii,ii])),⟨[],[c0,.forow 33]⟩),(.ret,⟨[(4,.pc 2 0)],[c0,.forow 33,c9]⟩),(.normal,⟨[(0,.pc 0 0),(4,.pc 2 0),(5,.pc 3 0)],[c0,.forow 33,c9,c9]⟩)])])
theorem zut:zoI.OK Tryz.prog:=kA (za zsm (za zbC (za zsn zi))) (by kernel_rfl)
noncomputable def zoJ:=spA false [zig,VF] 101 0 Tryz.f101 ⟨[(0,.pc 0 0),(1,.str),(2,.val 61)],[c0,.orow 33]⟩ [(.pan (.ifc 170 (.agg [ii,ii])),⟨[],[c0,.orow 33]⟩),(.ret,⟨[],[c0,.orow 33]⟩)] (hfind [(11,.draw (od [1,3,5,7,9,11,13,15,17,19,21,23,25,26]) []),(14,.draw (od [1,3,5,7,9,11,13,15,17,19,21,23,24,26,29,31,32]) [])])
theorem zuu:zoJ.OK Tryz.prog:=kA (za zoC (za zbC zi)) (by kernel_rfl)
noncomputable def zoK:=spA false [] 104 1 Tryz.f104 ⟨[(0,.val 33),(1,.pz 112 0)],[]⟩ [(.ret,⟨[(0,.bool)],[]⟩)] (hfind [])
theorem zuv:zoK.OK Tryz.prog:=kA zi (by kernel_rfl)
noncomputable def zoL:=spA false [zoK] 18 1 Tryz.f18 ⟨[(0,.row 0),(1,.clo 104 [.pc 1 0])],[.forow 33,c6]⟩ [(.ret,⟨[(0,ii)],[.forow 33,c6]⟩)] (hfind [(6,.loop ⟨[(0,.row 0),(1,.clo 104 [.pc 1 0]),(7,ii),(8,ii)],[.forow 33,c6]⟩ [(.ret,⟨[(4,ii)],[.forow 33,c6]⟩),(.exit 0,⟨[],[.forow 33,c6]⟩)])])
theorem zuw:zoL.OK Tryz.prog:=kA (za zuv zi) (by kernel_rfl)
noncomputable def zoM:=spA false [VF,zih] 105 0 Tryz.f105 ⟨[(0,.pc 0 0),(1,.sl 112),(2,.nxp 1 33 61)],[c0,.forow 33]⟩ [(.pan (.ifc 170 (.agg [ii,ii])),⟨[],[c0,.forow 33]⟩),(.ret,⟨[],[c0,.forow 33]⟩)] (hfind [(5,.loop ⟨[(0,.pc 0 0),(2,.nxp 1 33 61),(15,.sl 112),(16,ii),(17,ii)],[c0,.forow 33]⟩ [(.pan (.ifc 170 (.agg [ii,ii])),⟨[],[c0,.forow 33]⟩),(.exit 0,⟨[],[c0,.forow 33]⟩)]),(16,.draw (od [1,3,5,7,9,11,12]) [])])
theorem zux:zoM.OK Tryz.prog:=kA (za zbC (za zoG zi)) (by kernel_rfl)
def VG:Sig:=⟨[(0,.pc 0 0),(1,.sl 112)],[c0,.forow 33]⟩
def VH:List (XK×Sig):=[(.pan (.ifc 170 (.agg [ii,ii])),⟨[],[c0,.orow 33]⟩),(.ret,⟨[],[c0,.orow 33]⟩)]
def zso:Nat→Option Hint:=hfind [(5,.loop ⟨[(0,.pc 0 0),(4,.pc 2 0),(11,.sl 112),(12,ii),(13,ii)],[c0,.orow 33,c9]⟩ [(.pan (.ifc 170 (.agg [ii,ii])),⟨[],[c0,.orow 33]⟩),(.exit 0,⟨[],[c0,.orow 33]⟩)]),(23,.cut [(.pan (.ifc 170 (.agg [ii,ii])),⟨[],[c0,.orow 33]⟩),(.normal,⟨[(0,.pc 0 0),(4,.pc 2 0),(11,.sl 112),(12,ii),(13,ii)],[c0,.orow 33,c9]⟩)]),(24,.draw (od [1,3,5,7,9,11,13,15,16,18]) [(.pan (.ifc 170 (.agg [ii,ii])),⟨[],[c0,.orow 33]⟩),(.normal,⟨[(0,.pc 0 0),(4,.pc 2 0),(11,.sl 112),(12,ii),(13,ii)],[c0,.orow 33,c9]⟩)]),(27,.cut [(.pan (.ifc 170 (.agg [ii,ii])),⟨[],[c0,.orow 33]⟩),(.normal,⟨[(0,.pc 0 0),(4,.pc 2 0),(11,.sl 112),(12,ii),(13,ii)],[c0,.orow 33,c9]⟩)]),(31,.cut [(.pan (.ifc 170 (.agg [ii,ii])),⟨[],[c0,.orow 33]⟩),(.normal,⟨[(0,.pc 0 0),(4,.pc 2 0),(11,.sl 112),(12,ii),(13,ii)],[c0,.orow 33,c9]⟩)]),(36,.draw (od [1,3,5,7,9,11,13,15,17,19,21,23,25,27,29,31,33,35,37,39,40]) []),(40,.cut [(.normal,⟨[(0,.pc 0 0),(4,.pc 2 0),(6,.pc 3 0),(11,.sl 112),(12,ii),(13,ii),(23,ii),(79,.bool)],[c0,.orow 33,c9,c6]⟩)]),(43,.cut [(.pan (.ifc 170 (.agg [ii,ii])),⟨[],[c0,.orow 33]⟩),(.normal,⟨[(0,.pc 0 0),(4,.pc 2 0),(11,.sl 112),(12,ii),(13,ii)],[c0,.orow 33,c9]⟩)]),(45,.draw (od [1,3,5,7,9,11,12]) []),(47,.draw (od [1,3,5,7,9,11,12]) []),(51,.loop ⟨[(0,.pc 0 0),(4,.pc 2 0),(11,.sl 112),(12,ii),(13,ii),(98,.sl 112),(99,ii),(100,ii)],[c0,.orow 33,c9]⟩ [(.pan (.ifc 170 (.agg [ii,ii])),⟨[],[c0,.orow 33]⟩),(.exit 3,⟨[(0,.pc 0 0),(4,.pc 2 0),(11,.sl 112),(12,ii),(13,ii)],[c0,.orow 33,c9]⟩)]),(66,.cut [(.pan (.ifc 170 (.agg [ii,ii])),⟨[],[c0,.orow 33]⟩),(.normal,⟨[(0,.pc 0 0),(4,.pc 2 0),(11,.sl 112),(12,ii),(13,ii)],[c0,.orow 33,c9]⟩)]),(70,.cut [(.normal,⟨[(0,.pc 0 0),(4,.pc 2 0),(11,.sl 112),(12,ii),(13,ii)],[c0,.orow 33,c9]⟩),(.pan (.ifc 170 (.agg [ii,ii])),⟨[],[c0,.orow 33]⟩)])]
noncomputable def zkF (h:VG.ty CC→Option (zk CC VH)):Spec CC:=⟨60,0,VG,VH,h⟩
noncomputable def zkG (h:VG.ty CC→Option (zk CC VH)) (x:VG.ty CC):Option (zk CC VH):=wT ⟨false⟩ [zoI,zoJ,zkE,zoL,VF,zoM,zih,zkF h] lpO Tryz.prog Tryz.f60 0 VG VH zso x
noncomputable def ztM (h:VG.ty CC→Option (zk CC VH)):Spec CC:=⟨60,0,VG,VH,zkG h⟩
theorem ztN {h:VG.ty CC→Option (zk CC VH)}(hh:Spec.OK Tryz.prog (zkF h)):Spec.OK Tryz.prog (ztM h):=yM (za zut (za zuu (za zsn (za zuw (za zbC (za zux (za zoG (za hh zi)))))))) ZF ZE zso (by kernel_rfl) (by kernel_rfl) (by kernel_rfl) fun x=>rfl
noncomputable def zgy:Nat→VG.ty CC→Option (zk CC VH)
  |0=>fun _=>none
  |k+1=>zkG (zgy k)
theorem zpX:∀ k,Spec.OK Tryz.prog (zkF (zgy k))
  |0=>⟨Tryz.f60,by kernel_rfl,by kernel_rfl,by kernel_rfl,fun x r h=>by cases h⟩
  |k+1=>ztN (zpX k)
noncomputable def zsp (x:VG.ty CC):Option (zk CC VH):=zgy 100000 x
noncomputable def zsq:Spec CC:=⟨60,0,VG,VH,zsp⟩
theorem zuy:Spec.OK Tryz.prog zsq:=zpX 100000
noncomputable def zoN:=spA false [] 151 1 Tryz.f151 ⟨[(0,.val 112)],[]⟩ [(.ret,⟨[(0,.val 112)],[]⟩)] (hfind [])
theorem zuz:zoN.OK Tryz.prog:=kA zi (by kernel_rfl)
noncomputable def zii:=spA false [] 181 1 Tryz.f181 ⟨[(0,.val 112)],[]⟩ [(.ret,⟨[(0,.val 52)],[]⟩)] (hfind [])
theorem zoO:zii.OK Tryz.prog:=kA zi (by kernel_rfl)
noncomputable def zij:=spA false [zii] 153 1 Tryz.f153 ⟨[(0,.val 112),(1,ii)],[]⟩ [(.ret,⟨[(0,.val 52)],[]⟩)] (hfind [])
theorem zoP:zij.OK Tryz.prog:=kA (za zoO zi) (by kernel_rfl)
noncomputable def zkH:=spA false [zii] 154 1 Tryz.f154 ⟨[(0,.val 112)],[]⟩ [(.ret,⟨[(0,.row 0)],[.row 52]⟩)] (hfind [(8,.loop ⟨[(3,.row 0),(7,.sl 112),(8,ii),(9,ii)],[.row 52]⟩ [(.exit 0,⟨[(3,.row 0)],[.row 52]⟩)])])
theorem zsr:zkH.OK Tryz.prog:=kA (za zoO zi) (by kernel_rfl)
noncomputable def zfI:=spA false [] 65 1 Tryz.f65 ⟨[(0,.pc 0 0),(1,.val 55)],[c22,.row 55]⟩ [(.ret,⟨[(0,ii)],[c45,.gone,.row 55]⟩)] (hfind [(3,.draw (od [1,3,5,7,9,11,12,14,17,19,20]) [])])
theorem zkI:zfI.OK Tryz.prog:=kA zi (by kernel_rfl)
noncomputable def zoQ:=spA false [zij,zkH,zii,zfI] 150 0 Tryz.f150 ⟨[(0,.pc 0 0),(1,.val 112),(2,.val 112)],[c22,.row 55]⟩ [(.ret,⟨[],[c45,.gone,.row 55]⟩)] (hfind [(11,.cut [(.normal,⟨[(0,.pc 0 0),(5,.pc 2 0),(6,.pc 3 0),(13,ii),(17,.bool)],[c22,.row 55,c6,c5]⟩)]),(14,.cut [(.normal,⟨[(0,.pc 0 0),(6,.pc 2 0)],[c22,.row 55,c14,.row 52]⟩)]),(15,.draw (od [1,3,5,7,9,13,17,10,14,18,21,22,25,26]) []),(18,.cut [(.normal,⟨[(0,.pc 0 0),(6,.pc 2 0)],[c22,.row 55,c14,.row 52]⟩)]),(19,.draw (od [1,3,5,7,8,11,12]) []),(22,.cut [(.normal,⟨[(0,.pc 0 0),(6,.pc 2 0)],[c22,.row 55,c14,.row 52]⟩)]),(23,.draw (od [1,3,5,7,8,11,12]) []),(26,.cut [(.normal,⟨[(0,.pc 0 0),(6,.pc 2 0)],[c22,.row 55,c14,.row 52]⟩)]),(27,.draw (od [1,3,5,9,6,10,13,14,17,18]) []),(30,.cut [(.normal,⟨[(0,.pc 0 0),(6,.pc 2 0)],[c22,.row 55,c14,.row 52]⟩)]),(31,.draw (od [1,3,5,9,6,10,13,14,17,18]) []),(35,.cut [(.normal,⟨[(0,.pc 0 0),(5,.pc 2 0),(6,.pc 3 0),(63,.bool)],[c22,.row 55,c6,c5]⟩)]),(38,.cut [(.normal,⟨[(0,.pc 0 0),(6,.pc 2 0)],[c22,.row 55,c5]⟩)])])
theorem zuA:zoQ.OK Tryz.prog:=kA (za zoP (za zsr (za zoO (za zkI zi)))) (by kernel_rfl)
def zkJ:Sig:=⟨[(0,.pc 0 0),(1,.val 112)],[c22,.row 55]⟩
def zkK:List (XK×Sig):=[(.ret,⟨[],[c45,.gone,.row 55]⟩)]
def zss:Nat→Option Hint:=hfind [(9,.draw (od [1,3,5,7,9,11,15,12,16,19,20,23]) []),(15,.draw (od [1,3,5,7,9,11,13,15,17,19,21,23,24]) []),(17,.cut [(.normal,⟨[(0,.pc 0 0),(3,.pc 2 0),(5,ii),(53,.bool)],[c50,.gone,c6,.row 55]⟩)]),(18,.cut [(.normal,⟨[],[c45,.gone,.row 55]⟩)]),(21,.draw (od [1,3,5,7,9,11,13,15,17,19,21,23,24]) [])]
def zkL:Sig:=⟨[(0,.pc 0 0),(1,.val 112)],[c22,.row 55]⟩
def zkM:List (XK×Sig):=[(.ret,⟨[],[c45,.gone,.row 55]⟩)]
def zst:Nat→Option Hint:=hfind [(10,.cut [(.ret,⟨[],[c45,.gone,.row 55]⟩),(.normal,⟨[(0,.pc 0 0),(4,.pc 2 0)],[c22,.row 55,c14,.row 52]⟩)]),(12,.draw (od [1,3,5,6,8]) []),(17,.cut [(.normal,⟨[(0,.pc 0 0),(3,.pc 2 0),(4,.pc 3 0),(11,ii),(21,.bool)],[c22,.row 55,c6,c5]⟩)]),(26,.cut [(.normal,⟨[(0,.pc 0 0),(4,.pc 2 0)],[c22,.row 55,c14,.row 52]⟩)]),(27,.draw (od [1,5,9,2,6,10,13,14,17,18]) []),(30,.cut [(.normal,⟨[(0,.pc 0 0),(4,.pc 2 0)],[c22,.row 55,c14,.row 52]⟩)]),(34,.cut [(.normal,⟨[(0,.pc 0 0),(4,.pc 2 0)],[c22,.row 55,c14,.row 52]⟩)]),(35,.draw (od [1,3,5,7,8,11,12]) []),(38,.cut [(.normal,⟨[(0,.pc 0 0),(4,.pc 2 0)],[c22,.row 55,c14,.row 52]⟩)]),(39,.draw (od [1,3,5,7,8,11,12]) []),(42,.cut [(.normal,⟨[(0,.pc 0 0),(4,.pc 2 0)],[c22,.row 55,c14,.row 52]⟩)]),(43,.draw (od [1,7,13,2,5,8,10,14,17,18,21,22]) []),(46,.cut [(.normal,⟨[(0,.pc 0 0),(4,.pc 2 0)],[c22,.row 55,c14,.row 52]⟩)]),(50,.cut [(.normal,⟨[(0,.pc 0 0),(4,.pc 2 0)],[c22,.row 55,c5]⟩)]),(51,.draw (od [1,3,5,7,9,13,10,14,17,18,21,22,25,26]) [])]
def ww:Sig:=⟨[(0,.pc 0 0),(1,.val 112)],[c22,.row 55]⟩
def wx:List (XK×Sig):=[(.ret,⟨[],[c45,.gone,.row 55]⟩)]
def zsu:Nat→Option Hint:=hfind [(5,.loop ⟨[(0,.pc 0 0),(7,.sl 112),(8,ii),(9,ii)],[c45,.gone,.row 55]⟩ [(.exit 0,⟨[],[c45,.gone,.row 55]⟩)])]
noncomputable def zeS (h:ww.ty CC→Option (zk CC wx)):Spec CC:=⟨64,0,ww,wx,h⟩
noncomputable def zkN (h:ww.ty CC→Option (zk CC wx)) (x:zkJ.ty CC):Option (zk CC zkK):=wT ⟨false⟩ [zij,zfI,zeS h] lpO Tryz.prog Tryz.f152 0 zkJ zkK zss x
noncomputable def zpY (h:ww.ty CC→Option (zk CC wx)):Spec CC:=⟨152,0,zkJ,zkK,zkN h⟩
theorem ztO {h:ww.ty CC→Option (zk CC wx)}(hh:Spec.OK Tryz.prog (zeS h)):Spec.OK Tryz.prog (zpY h):=yM (za zoP (za zkI (za hh zi))) ZF ZE zss (by kernel_rfl) (by kernel_rfl) (by kernel_rfl) fun x=>rfl
noncomputable def zkO (h:ww.ty CC→Option (zk CC wx)) (x:zkL.ty CC):Option (zk CC zkM):=wT ⟨false⟩ [zoN,zoQ,zpY h,zij,zkH,zfI] lpO Tryz.prog Tryz.f110 0 zkL zkM zst x
noncomputable def zpZ (h:ww.ty CC→Option (zk CC wx)):Spec CC:=⟨110,0,zkL,zkM,zkO h⟩
theorem ztP {h:ww.ty CC→Option (zk CC wx)}(hh:Spec.OK Tryz.prog (zeS h)):Spec.OK Tryz.prog (zpZ h):=yM (za zuz (za zuA (za (ztO hh) (za zoP (za zsr (za zkI zi)))))) ZF ZE zst (by kernel_rfl) (by kernel_rfl) (by kernel_rfl) fun x=>rfl
noncomputable def zkP (h:ww.ty CC→Option (zk CC wx)) (x:ww.ty CC):Option (zk CC wx):=wT ⟨false⟩ [zpZ h] lpO Tryz.prog Tryz.f64 0 ww wx zsu x
noncomputable def ztQ (h:ww.ty CC→Option (zk CC wx)):Spec CC:=⟨64,0,ww,wx,zkP h⟩
theorem ztR {h:ww.ty CC→Option (zk CC wx)}(hh:Spec.OK Tryz.prog (zeS h)):Spec.OK Tryz.prog (ztQ h):=yM (za (ztP hh) zi) ZF ZE zsu (by kernel_rfl) (by kernel_rfl) (by kernel_rfl) fun x=>rfl
noncomputable def zc3:Nat→ww.ty CC→Option (zk CC wx)
  |0=>fun _=>none
  |k+1=>zkP (zc3 k)
theorem zp0:∀ k,Spec.OK Tryz.prog (zeS (zc3 k))
  |0=>⟨Tryz.f64,by kernel_rfl,by kernel_rfl,by kernel_rfl,fun x r h=>by cases h⟩
  |k+1=>ztR (zp0 k)
noncomputable def zuB (x:zkJ.ty CC):Option (zk CC zkK):=zkN (zc3 100000) x
noncomputable def zuC (x:zkL.ty CC):Option (zk CC zkM):=zkO (zc3 100000) x
noncomputable def zsv (x:ww.ty CC):Option (zk CC wx):=zc3 100000 x
noncomputable def zsw:Spec CC:=⟨64,0,ww,wx,zsv⟩
theorem zuD:Spec.OK Tryz.prog zsw:=zp0 100000
noncomputable def zkQ:=spA false [zsw,zfI] 32 1 Tryz.f32 ⟨[(0,.val 112)],[]⟩ [(.ret,⟨[(0,.val 30)],[]⟩)] (hfind [(18,.loop ⟨[(2,.pc 0 0),(3,.pc 1 0),(4,.pc 2 0),(17,.sl 112),(18,ii),(19,ii)],[c37,c35,c38,.row 9,.row 55]⟩ [(.exit 0,⟨[(2,.pc 0 0),(3,.pc 1 0),(4,.pc 2 0)],[c37,c35,c38,.row 9,.row 55]⟩)]),(34,.cut [(.normal,⟨[(2,.pc 0 0),(3,.pc 1 0),(4,.pc 2 0),(17,.sl 112),(18,ii),(19,ii)],[c37,c35,c38,.row 9,.row 55]⟩)]),(38,.cut [(.normal,⟨[(2,.pc 0 0),(3,.pc 1 0),(4,.pc 2 0),(17,.sl 112),(18,ii),(19,ii)],[c37,c35,c38,.row 9,.row 55]⟩)])])
theorem zsx:zkQ.OK Tryz.prog:=kA (za zuD (za zkI zi)) (by kernel_rfl)
noncomputable def zoR:=spA false [VF] 58 0 Tryz.f58 ⟨[(0,.pc 0 0),(1,.val 112),(2,.bool),(3,ii)],[c0,.forow 33]⟩ [(.pan (.ifc 170 (.agg [ii,ii])),⟨[],[c0,.forow 33]⟩),(.ret,⟨[],[c0,.forow 33]⟩)] (hfind [])
theorem zuE:zoR.OK Tryz.prog:=kA (za zbC zi) (by kernel_rfl)
def zoS:Sig:=⟨[(0,.pc 0 0),(1,.pc 1 0),(2,.pc 2 0),(3,.ifc 170 (.agg [ii,ii]))],[c50,c11,c11,.forow 33]⟩
def zoT:List (XK×Sig):=[(.ret,⟨[],[c26,c11,c11,.forow 33]⟩)]
def zsy:Nat→Option Hint:=hfind [(5,.draw (od [1,3,5,7,8,10,12]) [])]
noncomputable def zsz (x:zoS.ty CC):Option (zk CC zoT):=zbt ⟨false⟩ [] lpO Tryz.prog Tryz.f57 0 zoS zoT zsy x
noncomputable def zsA:Spec CC:=⟨57,0,zoS,zoT,zsz⟩
theorem zuF:Spec.OKD Tryz.prog zsA:=Vj zi ZF ZE zsy (by kernel_rfl) (by kernel_rfl) (by kernel_rfl) fun x=>rfl
def zoU:Sig:=⟨[(0,.pc 0 0),(1,.pc 1 0),(2,.pc 2 0),(3,.nili)],[c50,c11,c11,.forow 33]⟩
def zoV:List (XK×Sig):=[(.ret,⟨[],[c50,c11,c11,.forow 33]⟩)]
def zsB:Nat→Option Hint:=hfind []
noncomputable def zsC (x:zoU.ty CC):Option (zk CC zoV):=zbt ⟨false⟩ [] lpO Tryz.prog Tryz.f57 0 zoU zoV zsB x
noncomputable def zsD:Spec CC:=⟨57,0,zoU,zoV,zsC⟩
theorem zuG:Spec.OKD Tryz.prog zsD:=Vj zi ZF ZE zsB (by kernel_rfl) (by kernel_rfl) (by kernel_rfl) fun x=>rfl
def zoW:Sig:=⟨[(0,.val 112),(1,.sl 130),(2,.sl 65)],[]⟩
def zoX:List (XK×Sig):=[(.ret,⟨[(0,.row 0),(1,ii),(2,ii)],[.orow 33]⟩)]
def zsE:Nat→Option Hint:=hfind [(3,.loop ⟨[(1,.sl 130),(2,.sl 65),(3,.pc 0 0),(6,.pc 1 0),(7,.pc 2 0),(8,.pc 3 0),(14,.clo 57 [.pc 1 0,.pc 2 0,.pc 3 0])],[c6,c26,c11,c11]⟩ []),(10,.loop ⟨[(3,.pc 0 0),(6,.pc 1 0),(7,.pc 2 0),(8,.pc 3 0),(9,.pc 4 0),(20,.sl 112),(21,ii),(22,ii)],[c6,c26,c11,c11,c34,.orow 33]⟩ [(.pan (.ifc 170 (.agg [ii,ii])),⟨[(6,.pc 1 0),(7,.pc 2 0),(8,.pc 3 0)],[c6,c26,c11,c11]⟩),(.exit 0,⟨[(3,.pc 0 0),(6,.pc 1 0),(7,.pc 2 0),(8,.pc 3 0),(9,.pc 4 0)],[c6,c26,c11,c11,c34,.orow 33]⟩)]),(18,.cut [(.pan (.ifc 170 (.agg [ii,ii])),⟨[(6,.pc 1 0),(7,.pc 2 0),(8,.pc 3 0)],[c6,c26,c11,c11]⟩),(.normal,⟨[(3,.pc 0 0),(6,.pc 1 0),(7,.pc 2 0),(8,.pc 3 0),(9,.pc 4 0),(20,.sl 112),(21,ii),(22,ii)],[c6,c26,c11,c11,c34,.orow 33]⟩)]),(23,.draw (od [1,3,5,7,11,13,8718,8720,16,8,18,21,23,24,14,16,18,21,23,24]) [(.pan (.ifc 170 (.agg [ii,ii])),⟨[(6,.pc 1 0),(7,.pc 2 0),(8,.pc 3 0)],[c6,c26,c11,c11]⟩),(.normal,⟨[(3,.pc 0 0),(6,.pc 1 0),(7,.pc 2 0),(8,.pc 3 0),(9,.pc 4 0),(20,.sl 112),(21,ii),(22,ii)],[c6,c26,c11,c11,c34,.orow 33]⟩)]),(29,.loop ⟨[(6,.pc 1 0),(7,.pc 2 0),(8,.pc 3 0),(9,.pc 4 0),(46,.sl 112),(47,ii),(48,ii)],[c6,c26,c11,c11,.cell [.sl 130,.sl 65,.row 5,ii,.und],.orow 33]⟩ [(.pan (.ifc 170 (.agg [ii,ii])),⟨[(6,.pc 1 0),(7,.pc 2 0),(8,.pc 3 0)],[c6,c26,c11,c11]⟩),(.exit 2,⟨[(6,.pc 1 0),(7,.pc 2 0),(8,.pc 3 0),(9,.pc 4 0)],[c6,c26,c11,c11,.cell [.sl 130,.sl 65,.row 5,ii,.und],.orow 33]⟩)]),(37,.cut [(.pan (.ifc 170 (.agg [ii,ii])),⟨[(6,.pc 1 0),(7,.pc 2 0),(8,.pc 3 0)],[c6,c26,c11,c11]⟩),(.normal,⟨[(6,.pc 1 0),(7,.pc 2 0),(8,.pc 3 0),(9,.pc 4 0),(46,.sl 112),(47,ii),(48,ii)],[c6,c26,c11,c11,.cell [.sl 130,.sl 65,.row 5,ii,.pr 5 33 0],.orow 33]⟩)]),(44,.draw (od [1,3,5,7,9,11,13,15,17,19,21,23,25,26,29,31,33,35,36]) [(.pan (.ifc 170 (.agg [ii,ii])),⟨[(6,.pc 1 0),(7,.pc 2 0),(8,.pc 3 0)],[c6,c26,c11,c11]⟩),(.normal,⟨[(6,.pc 1 0),(7,.pc 2 0),(8,.pc 3 0),(9,.pc 4 0),(46,.sl 112),(47,ii),(48,ii)],[c6,c26,c11,c11,.cell [.sl 130,.sl 65,.row 5,ii,.pr 5 33 0],.orow 33]⟩)])]
noncomputable def zsF (x:zoW.ty CC):Option (zk CC zoX):=zfy ⟨false⟩ [zkC,zoD,zsq,zkQ,zoR] (zsD) (zsA) lpO Tryz.prog Tryz.f30 3 zoW zoX zsE x
noncomputable def zsG:Spec CC:=⟨30,3,zoW,zoX,zsF⟩
theorem zuH:Spec.OK Tryz.prog zsG:=zfz (za zsl (za zup (za zuy (za zsx (za zuE zi))))) zuG zuF ZF ZE zsE (by kernel_rfl) (by kernel_rfl) (by kernel_rfl) fun x=>rfl
noncomputable def zik:=spA false [] 61 0 Tryz.f61 ⟨[(0,.pc 0 0),(1,ii),(2,ii)],[c4,.forow 84]⟩ [(.ret,⟨[],[c4,.forow 84]⟩)] (hfind [(2,.cut [(.normal,⟨[],[c4,.forow 84]⟩)])])
theorem zoY:zik.OK Tryz.prog:=kA zi (by kernel_rfl)
noncomputable def zoZ:=spA false [] 107 1 Tryz.f107 ⟨[(0,.pc 0 0),(1,.str)],[c47,.row 96]⟩ [(.ret,⟨[(0,ii)],[c47,.row 96]⟩)] (hfind [(6,.loop ⟨[(0,.pc 0 0),(1,.str),(5,ii)],[c47,.row 96]⟩ [(.ret,⟨[(4,ii)],[c47,.row 96]⟩),(.exit 0,⟨[],[c47,.row 96]⟩)])])
theorem zuI:zoZ.OK Tryz.prog:=kA zi (by kernel_rfl)
noncomputable def zo0:=spA false [zik,zoZ,zif] 62 1 Tryz.f62 ⟨[(0,.pc 0 0),(1,.val 116)],[c4,.forow 84]⟩ [(.ret,⟨[(0,.agg [.str,ii,.row 2])],[c4,.forow 84,.row 96]⟩)] (hfind [(20,.loop ⟨[(0,.pc 0 0),(3,.pc 2 0),(4,.pc 3 0),(5,ii),(6,.pc 4 0),(7,ii)],[c4,.forow 84,c7,c23,c46,.row 96]⟩ [(.exit 0,⟨[(0,.pc 0 0),(3,.pc 2 0),(4,.pc 3 0),(5,ii),(6,.pc 4 0)],[c4,.forow 84,c7,c23,c46,.row 96]⟩)]),(38,.cut [(.normal,⟨[(0,.pc 0 0),(3,.pc 2 0),(4,.pc 3 0),(5,ii),(6,.pc 4 0),(7,ii),(8,.pc 5 0),(9,.pc 6 0)],[c4,.forow 84,c7,c23,c52,c7,c7,.row 96]⟩)]),(45,.cut [(.normal,⟨[(0,.pc 0 0),(3,.pc 2 0),(4,.pc 3 0),(5,ii),(6,.pc 4 0),(7,ii),(9,.pc 5 0),(11,.pc 6 0),(60,.bool)],[c4,.forow 84,c7,c23,c52,c7,c13,.row 96]⟩)]),(46,.cut [(.normal,⟨[(0,.pc 0 0),(3,.pc 2 0),(4,.pc 3 0),(5,ii),(6,.pc 4 0),(7,ii),(9,.pc 5 0),(11,.pc 6 0)],[c4,.forow 84,c7,c23,c52,c7,c13,.row 96]⟩)]),(52,.cut [(.normal,⟨[(0,.pc 0 0),(3,.pc 2 0),(4,.pc 3 0),(5,ii),(6,.pc 4 0),(7,ii),(11,.pc 5 0)],[c4,.forow 84,c7,c23,c54,c13,.row 96]⟩)]),(56,.draw (od [1,3,5,7,9,11,13,15,17,18,21,22]) []),(59,.cut [(.normal,⟨[(0,.pc 0 0),(3,.pc 2 0),(4,.pc 3 0),(5,ii),(6,.pc 4 0),(7,ii),(11,.pc 5 0)],[c4,.forow 84,c7,c23,c54,c13,.row 96]⟩)]),(68,.cut [(.normal,⟨[(4,.pc 2 0),(6,.pc 3 0)],[c4,.forow 84,c23,.cell [.str,ii,.row 4],.row 96]⟩)])])
theorem zuJ:zo0.OK Tryz.prog:=kA (za zoY (za zuI (za zor zi))) (by kernel_rfl)
noncomputable def zkR:=spA false [] 107 1 Tryz.f107 ⟨[(0,.pr 0 84 0),(1,.str)],[.forow 84]⟩ [(.ret,⟨[(0,ii)],[.forow 84]⟩)] (hfind [(6,.loop ⟨[(0,.pr 0 84 0),(1,.str),(5,ii)],[.forow 84]⟩ [(.ret,⟨[(4,ii)],[.forow 84]⟩),(.exit 0,⟨[],[.forow 84]⟩)])])
theorem zsH:zkR.OK Tryz.prog:=kA zi (by kernel_rfl)
noncomputable def zkS:=spA false [zkR] 180 2 Tryz.f180 ⟨[(0,.pr 0 84 0),(1,.str)],[.forow 84]⟩ [(.ret,⟨[(0,.val 96),(1,ii)],[.forow 84]⟩)] (hfind [(13,.draw (od [1,3,5,7,9,11,13,15,17,19,21,23,25,27,29,31,33,34,37]) [])])
theorem zsI:zkS.OK Tryz.prog:=kA (za zsH zi) (by kernel_rfl)
noncomputable def zil:=spA false [zkS] 149 1 Tryz.f149 ⟨[(0,.pr 0 84 0),(1,.val 116),(2,.val 96)],[.forow 84]⟩ [(.ret,⟨[(0,ii)],[.forow 84]⟩)] (hfind [(5,.cut [(.ret,⟨[(6,ii)],[.forow 84]⟩),(.normal,⟨[(0,.pr 0 84 0),(4,.pc 1 0),(5,.pc 2 0)],[.forow 84,c7,c13]⟩)]),(31,.cut [(.ret,⟨[(6,ii)],[.forow 84]⟩),(.normal,⟨[(4,.pc 1 0),(5,.pc 2 0),(7,.pc 3 0)],[.forow 84,c7,c13,c13]⟩)]),(45,.cut [(.normal,⟨[(4,.pc 1 0),(5,.pc 2 0),(7,.pc 3 0),(9,.bool)],[.forow 84,c7,c13,c13]⟩)]),(48,.cut [(.normal,⟨[(60,.bool)],[.forow 84]⟩)])])
theorem zo1:zil.OK Tryz.prog:=kA (za zsI zi) (by kernel_rfl)
noncomputable def zo2:=spA false [zil] 148 1 Tryz.f148 ⟨[(0,.pr 0 84 0),(1,.sl 116),(2,.sl 96)],[.forow 84]⟩ [(.ret,⟨[(0,ii)],[.forow 84]⟩)] (hfind [(14,.loop ⟨[(0,.pr 0 84 0),(1,.sl 116),(2,.sl 96),(7,ii)],[.forow 84]⟩ [(.ret,⟨[(6,ii)],[.forow 84]⟩),(.exit 0,⟨[],[.forow 84]⟩)]),(24,.draw (od [1,3,5,7,9,11,13,15,17,18,21]) [])])
theorem zuK:zo2.OK Tryz.prog:=kA (za zo1 zi) (by kernel_rfl)
noncomputable def zkT:=spA false [zo2] 147 2 Tryz.f147 ⟨[(0,.pc 0 0),(1,.pr 1 84 0),(2,.val 116)],[c4,.forow 84]⟩ [(.ret,⟨[(0,.val 96),(1,ii)],[c4,.forow 84]⟩)] (hfind [(6,.loop ⟨[(0,.pc 0 0),(1,.pr 1 84 0),(5,.pc 2 0),(6,.pc 3 0),(8,ii)],[c4,.forow 84,c7,c13]⟩ [(.ret,⟨[(6,.pc 2 0),(7,ii)],[c4,.forow 84,c13]⟩),(.exit 0,⟨[(6,.pc 2 0)],[c4,.forow 84,c13]⟩)]),(16,.draw (od [1,3,5,7,9,11,13,15,17,19,21]) []),(19,.draw (od [1,3,5,7,9,11,13,15,17,19,21,22,25]) [])])
theorem zsJ:zkT.OK Tryz.prog:=kA (za zuK zi) (by kernel_rfl)
noncomputable def zo3:=spA false [zkS,zkT] 146 2 Tryz.f146 ⟨[(0,.pc 0 0),(1,.pr 1 84 0),(2,.val 116)],[c4,.forow 84]⟩ [(.ret,⟨[(0,.val 96),(1,ii)],[c4,.forow 84]⟩)] (hfind [(10,.cut [(.ret,⟨[(6,.pc 2 0),(7,ii)],[c4,.forow 84,c13]⟩),(.normal,⟨[(6,.pc 2 0),(8,.pc 3 0)],[c4,.forow 84,c13,c13]⟩)]),(23,.cut [(.normal,⟨[(6,.pc 2 0),(9,.pc 3 0),(10,ii),(46,.bool)],[c4,.forow 84,c13,c13]⟩)]),(24,.cut [(.normal,⟨[(6,.pc 2 0),(9,.pc 3 0),(10,ii)],[c4,.forow 84,c13,c13]⟩)]),(33,.cut [(.normal,⟨[(0,.pc 0 0),(1,.pr 1 84 0),(5,.pc 2 0),(6,.pc 3 0),(8,.pc 4 0),(21,ii),(49,.bool)],[c4,.forow 84,c7,c13,c13]⟩)]),(36,.cut [(.ret,⟨[(6,.pc 2 0),(7,ii)],[c4,.forow 84,c13]⟩),(.normal,⟨[(6,.pc 2 0),(8,.pc 3 0)],[c4,.forow 84,c13,c13]⟩)]),(59,.cut [(.normal,⟨[(6,.pc 2 0),(8,.pc 3 0),(11,.pc 4 0),(87,.bool)],[c4,.forow 84,c13,c13,c13]⟩)]),(71,.cut [(.normal,⟨[(0,.pc 0 0),(1,.pr 1 84 0),(5,.pc 2 0),(6,.pc 3 0),(8,.pc 4 0),(21,ii),(90,.bool)],[c4,.forow 84,c7,c13,c13]⟩)]),(74,.cut [(.ret,⟨[(6,.pc 2 0),(7,ii)],[c4,.forow 84,c13]⟩),(.normal,⟨[(6,.pc 2 0),(8,.pc 3 0)],[c4,.forow 84,c13,c13]⟩)]),(98,.cut [(.normal,⟨[(6,.pc 2 0),(15,.pc 3 0)],[c4,.forow 84,c13,c13]⟩)]),(111,.cut [(.normal,⟨[(6,.pc 2 0),(17,.pc 3 0),(18,ii),(129,.bool)],[c4,.forow 84,c13,c13]⟩)]),(112,.cut [(.normal,⟨[(6,.pc 2 0),(17,.pc 3 0),(18,ii)],[c4,.forow 84,c13,c13]⟩)])])
theorem zuL:zo3.OK Tryz.prog:=kA (za zsI (za zsJ zi)) (by kernel_rfl)
noncomputable def zo4:=spA false [zil] 148 1 Tryz.f148 ⟨[(0,.pr 0 84 0),(1,.sl 116),(2,.nxp 0 84 96)],[.forow 84]⟩ [(.ret,⟨[(0,ii)],[.forow 84]⟩)] (hfind [(14,.loop ⟨[(0,.pr 0 84 0),(1,.sl 116),(2,.nxp 0 84 96),(7,ii)],[.forow 84]⟩ [(.ret,⟨[(6,ii)],[.forow 84]⟩),(.exit 0,⟨[],[.forow 84]⟩)]),(24,.draw (od [1,3,5,7,9,11,13,15,17,18,21]) [])])
theorem zuM:zo4.OK Tryz.prog:=kA (za zo1 zi) (by kernel_rfl)
noncomputable def zo5:=spA false [zo3,zkR,zkT,zo4,zil] 109 1 Tryz.f109 ⟨[(0,.pc 0 0),(1,.pr 1 84 0),(2,.val 116)],[c4,.orow 84]⟩ [(.ret,⟨[(0,ii)],[c4,.orow 84]⟩)] (hfind [(10,.cut [(.ret,⟨[(6,ii)],[c4,.orow 84]⟩),(.normal,⟨[],[c4,.orow 84]⟩)]),(30,.draw (od [1,3,5,7,9,11,12,14,17,19,20]) []),(37,.draw (od [1,3,5,7,9,11,13,15,17]) []),(48,.cut [(.ret,⟨[(6,ii)],[c4,.orow 84]⟩),(.normal,⟨[],[c4,.orow 84]⟩)]),(56,.cut [(.ret,⟨[(6,ii)],[c4,.orow 84]⟩),(.normal,⟨[],[c4,.orow 84]⟩)]),(61,.loop ⟨[(0,.pc 0 0),(1,.pr 1 84 0),(5,.pc 2 0),(13,ii)],[c4,.orow 84,c7]⟩ [(.ret,⟨[(6,ii)],[c4,.orow 84]⟩),(.exit 1,⟨[],[c4,.orow 84]⟩)]),(71,.draw (od [1,3,5,7,9,11,13,15,17,19,21]) []),(74,.draw (od [1,3,5,7,9,11,13,15,17,19,21,23,25,27,29,31,33,35,37,39,40,43]) []),(84,.cut [(.normal,⟨[(1,.pr 1 84 0),(5,.pc 2 0),(7,.pc 3 0),(17,ii),(117,.bool)],[c4,.orow 84,c7,c13]⟩)]),(87,.cut [(.ret,⟨[(6,ii)],[c4,.orow 84]⟩),(.normal,⟨[],[c4,.orow 84]⟩)]),(89,.draw (od [1,3,5,7,9,11,12,15]) []),(99,.draw (od [1,3,5,7,9,11,12,15]) []),(103,.cut [(.ret,⟨[(6,ii)],[c4,.orow 84]⟩),(.normal,⟨[],[c4,.orow 84]⟩)])])
theorem zuN:zo5.OK Tryz.prog:=kA (za zuL (za zsH (za zsJ (za zuM (za zo1 zi))))) (by kernel_rfl)
def VI:Sig:=⟨[(0,.pc 0 0),(1,.pr 1 84 0),(2,.sl 116)],[c4,.forow 84]⟩
def VJ:List (XK×Sig):=[(.ret,⟨[],[c4,.orow 84]⟩)]
def zsK:Nat→Option Hint:=hfind [(3,.loop ⟨[(0,.pc 0 0),(1,.pr 1 84 0),(2,.sl 116),(6,ii)],[c4,.orow 84]⟩ [(.ret,⟨[],[c4,.orow 84]⟩),(.exit 0,⟨[],[c4,.orow 84]⟩)]),(6,.cut [(.normal,⟨[(0,.pc 0 0),(1,.pr 1 84 0),(2,.sl 116),(6,ii),(20,.bool)],[c4,.orow 84]⟩)]),(25,.cut [(.normal,⟨[(0,.pc 0 0),(1,.pr 1 84 0),(2,.sl 116),(6,ii),(7,.pc 2 0),(45,.bool)],[c4,.orow 84,c7]⟩)]),(26,.cut [(.normal,⟨[(0,.pc 0 0),(1,.pr 1 84 0),(2,.sl 116),(6,ii)],[c4,.orow 84]⟩)]),(30,.loop ⟨[(0,.pc 0 0),(1,.pr 1 84 0),(2,.sl 116),(6,ii),(7,.pc 2 0),(9,ii)],[c4,.orow 84,c7]⟩ [(.exit 2,⟨[(0,.pc 0 0),(1,.pr 1 84 0),(2,.sl 116),(6,ii)],[c4,.orow 84]⟩)])]
noncomputable def zkU (h:VI.ty CC→Option (zk CC VJ)):Spec CC:=⟨63,0,VI,VJ,h⟩
noncomputable def zkV (h:VI.ty CC→Option (zk CC VJ)) (x:VI.ty CC):Option (zk CC VJ):=wT ⟨false⟩ [zo5,zik,zkU h] lpO Tryz.prog Tryz.f63 0 VI VJ zsK x
noncomputable def ztS (h:VI.ty CC→Option (zk CC VJ)):Spec CC:=⟨63,0,VI,VJ,zkV h⟩
theorem ztT {h:VI.ty CC→Option (zk CC VJ)}(hh:Spec.OK Tryz.prog (zkU h)):Spec.OK Tryz.prog (ztS h):=yM (za zuN (za zoY (za hh zi))) ZF ZE zsK (by kernel_rfl) (by kernel_rfl) (by kernel_rfl) fun x=>rfl
noncomputable def zgz:Nat→VI.ty CC→Option (zk CC VJ)
  |0=>fun _=>none
  |k+1=>zkV (zgz k)
theorem zp1:∀ k,Spec.OK Tryz.prog (zkU (zgz k))
  |0=>⟨Tryz.f63,by kernel_rfl,by kernel_rfl,by kernel_rfl,fun x r h=>by cases h⟩
  |k+1=>ztT (zp1 k)
noncomputable def zsL (x:VI.ty CC):Option (zk CC VJ):=zgz 100000 x
noncomputable def zsM:Spec CC:=⟨63,0,VI,VJ,zsL⟩
theorem zuO:Spec.OK Tryz.prog zsM:=zp1 100000
noncomputable def zfJ:=spA false [] 112 1 Tryz.f112 ⟨[(0,.val 116)],[]⟩ [(.ret,⟨[(0,.val 91)],[]⟩)] (hfind [])
theorem zkW:zfJ.OK Tryz.prog:=kA zi (by kernel_rfl)
noncomputable def zkX:=spA false [zfJ] 156 1 Tryz.f156 ⟨[(0,.sl 116)],[]⟩ [(.ret,⟨[(0,.row 0)],[.row 91]⟩)] (hfind [(8,.loop ⟨[(0,.sl 116),(3,.row 0),(4,ii)],[.row 91]⟩ [(.exit 0,⟨[(3,.row 0)],[.row 91]⟩)])])
theorem zsN:zkX.OK Tryz.prog:=kA (za zkW zi) (by kernel_rfl)
noncomputable def zo6:=spA false [zfJ,zkX] 155 1 Tryz.f155 ⟨[(0,.val 116)],[]⟩ [(.ret,⟨[(0,.agg [ii,ii,.str,.str,.str,ii,.str,ii,.row 0,ii,.bool])],[.row 91]⟩)] (hfind [(13,.cut [(.normal,⟨[(2,.pc 0 0),(3,.pc 1 0),(4,.pc 2 0),(20,ii),(21,.bool)],[c5,c7,c5]⟩)]),(16,.cut [(.normal,⟨[(2,.pc 0 0),(4,.pc 1 0)],[c5,c12,.row 91]⟩)]),(20,.cut [(.normal,⟨[(2,.pc 0 0),(4,.pc 1 0)],[c5,c12,.row 91]⟩)]),(28,.cut [(.normal,⟨[(2,.pc 0 0),(4,.pc 1 0)],[c5,c12,.row 91]⟩)]),(36,.cut [(.normal,⟨[(2,.pc 0 0),(4,.pc 1 0)],[c5,c12,.row 91]⟩)]),(42,.cut [(.normal,⟨[(2,.pc 0 0),(4,.pc 1 0)],[c5,c12,.row 91]⟩)]),(48,.cut [(.normal,⟨[(2,.pc 0 0),(4,.pc 1 0)],[c5,c12,.row 91]⟩)]),(56,.cut [(.normal,⟨[(2,.pc 0 0),(4,.pc 1 0)],[c5,c12,.row 91]⟩)])])
theorem zuP:zo6.OK Tryz.prog:=kA (za zkW (za zsN zi)) (by kernel_rfl)
noncomputable def zo7:=spA false [zo6,zfJ,zkX] 111 1 Tryz.f111 ⟨[(0,.val 116)],[]⟩ [(.ret,⟨[(0,.agg [ii,ii,.str,.str,.str,ii,.str,ii,.row 0,ii,.bool])],[.row 91]⟩)] (hfind [(16,.cut [(.normal,⟨[(2,.pc 0 0),(3,.pc 1 0)],[c5,c12,.row 91]⟩)]),(24,.cut [(.normal,⟨[(2,.pc 0 0),(3,.pc 1 0)],[c5,c12,.row 91]⟩)]),(28,.cut [(.normal,⟨[(2,.pc 0 0),(3,.pc 1 0)],[c5,c12,.row 91]⟩)]),(34,.cut [(.normal,⟨[(2,.pc 0 0),(3,.pc 1 0)],[c5,c12,.row 91]⟩)]),(40,.cut [(.normal,⟨[(2,.pc 0 0),(3,.pc 1 0)],[c5,c12,.row 91]⟩)]),(48,.cut [(.normal,⟨[(2,.pc 0 0),(3,.pc 1 0)],[c5,c12,.row 91]⟩)]),(54,.cut [(.normal,⟨[(2,.pc 0 0),(3,.pc 1 0)],[c5,c5]⟩)]),(61,.cut [(.normal,⟨[(2,.pc 0 0),(3,.pc 1 0)],[c5,c5]⟩)]),(68,.cut [(.normal,⟨[(2,.pc 0 0),(3,.pc 1 0)],[c5,c5]⟩)])])
theorem zuQ:zo7.OK Tryz.prog:=kA (za zuP (za zkW (za zsN zi))) (by kernel_rfl)
def VK:Sig:=⟨[(0,.val 116),(1,ii)],[]⟩
def VL:List (XK×Sig):=[(.ret,⟨[(0,.row 0)],[.row 94]⟩)]
def zsO:Nat→Option Hint:=hfind [(8,.loop ⟨[(1,ii),(2,.pc 0 0),(5,.row 1),(6,ii)],[c7,.row 94]⟩ [(.exit 0,⟨[(5,.row 0)],[.row 94]⟩)]),(16,.cut [(.normal,⟨[(1,ii),(2,.pc 0 0),(5,.row 1),(6,ii)],[c7,.row 94]⟩)]),(23,.cut [(.normal,⟨[(1,ii),(2,.pc 0 0),(5,.row 1),(6,ii),(7,.pc 2 0),(8,ii),(40,.bool)],[c7,.row 94,c7]⟩)]),(45,.loop ⟨[(1,ii),(2,.pc 0 0),(5,.row 1),(6,ii),(7,.pc 2 0),(8,ii),(12,.row 3),(13,ii),(14,ii)],[c7,.row 94,c7,.row 94]⟩ [(.exit 2,⟨[(1,ii),(2,.pc 0 0),(5,.row 1),(6,ii),(7,.pc 2 0),(8,ii),(13,ii)],[c7,.row 94,c7]⟩)]),(71,.loop ⟨[(1,ii),(2,.pc 0 0),(5,.row 1),(6,ii),(15,.row 2),(16,ii)],[c7,.row 94,.row 94]⟩ [(.exit 4,⟨[(1,ii),(2,.pc 0 0),(5,.row 1),(6,ii)],[c7,.row 94]⟩)])]
noncomputable def zkY (h:VK.ty CC→Option (zk CC VL)):Spec CC:=⟨66,1,VK,VL,h⟩
noncomputable def zkZ (h:VK.ty CC→Option (zk CC VL)) (x:VK.ty CC):Option (zk CC VL):=wT ⟨false⟩ [zo7,zfJ,zkY h] lpO Tryz.prog Tryz.f66 1 VK VL zsO x
noncomputable def ztU (h:VK.ty CC→Option (zk CC VL)):Spec CC:=⟨66,1,VK,VL,zkZ h⟩
theorem ztV {h:VK.ty CC→Option (zk CC VL)}(hh:Spec.OK Tryz.prog (zkY h)):Spec.OK Tryz.prog (ztU h):=yM (za zuQ (za zkW (za hh zi))) ZF ZE zsO (by kernel_rfl) (by kernel_rfl) (by kernel_rfl) fun x=>rfl
noncomputable def zgA:Nat→VK.ty CC→Option (zk CC VL)
  |0=>fun _=>none
  |k+1=>zkZ (zgA k)
theorem zp2:∀ k,Spec.OK Tryz.prog (zkY (zgA k))
  |0=>⟨Tryz.f66,by kernel_rfl,by kernel_rfl,by kernel_rfl,fun x r h=>by cases h⟩
  |k+1=>ztV (zp2 k)
noncomputable def zsP (x:VK.ty CC):Option (zk CC VL):=zgA 100000 x
noncomputable def zsQ:Spec CC:=⟨66,1,VK,VL,zsP⟩
theorem zuR:Spec.OK Tryz.prog zsQ:=zp2 100000
noncomputable def zk0:=spA false [zsQ] 33 1 Tryz.f33 ⟨[(0,.val 116)],[]⟩ [(.ret,⟨[(0,.agg [.str,.row 0,.row 1])],[.row 9,.row 94]⟩)] (hfind [(10,.loop ⟨[(1,.pc 0 0),(2,.pc 1 0),(3,.pc 2 0),(4,ii),(5,ii)],[c7,c37,c35,.row 9]⟩ [(.exit 0,⟨[(1,.pc 0 0),(2,.pc 1 0),(3,.pc 2 0),(4,ii)],[c7,c37,c35,.row 9]⟩)]),(19,.draw (od [1,3,5,7,9,11,13,15,16,18,21,22]) []),(24,.draw (od [1,3,5,7,9,11,13,15,17,18,20,23,24]) [])])
theorem zsR:zk0.OK Tryz.prog:=kA (za zuR zi) (by kernel_rfl)
noncomputable def zo8:=spA false [zik,zo0,zsM,zk0] 31 1 Tryz.f31 ⟨[(0,.val 116),(1,.sl 198),(2,.sl 100)],[]⟩ [(.ret,⟨[(0,.pc 0 0)],[c4,.orow 84]⟩)] (hfind [(8,.loop ⟨[(3,.pc 0 0),(7,.pc 1 0),(8,ii)],[c7,c25,.orow 84]⟩ [(.exit 0,⟨[(3,.pc 0 0),(7,.pc 1 0)],[c7,c25,.orow 84]⟩)]),(11,.cut [(.normal,⟨[(3,.pc 0 0),(7,.pc 1 0),(8,ii),(29,.bool)],[c7,c25,.orow 84]⟩)]),(27,.draw (od [1,3,5,7,9,11,12,14,17,19,20]) []),(33,.loop ⟨[(3,.pc 0 0),(7,.pc 1 0),(10,ii)],[c7,c25,.orow 84]⟩ [(.exit 2,⟨[(7,.pc 0 0)],[c4,.orow 84]⟩)]),(36,.cut [(.normal,⟨[(3,.pc 0 0),(7,.pc 1 0),(10,ii),(75,.bool)],[c7,c25,.orow 84]⟩)]),(47,.draw (od [1,3,5,7,9,11,13,15,17,19,21,23,25,26]) []),(51,.cut [(.normal,⟨[(3,.pc 0 0),(7,.pc 1 0),(10,ii),(11,.pc 2 0),(118,.bool)],[c7,.cell [.sl 198,.sl 100,.row 3,ii,ii],c7,.orow 84]⟩)]),(52,.cut [(.normal,⟨[(3,.pc 0 0),(7,.pc 1 0),(10,ii)],[c7,c25,.orow 84]⟩)]),(59,.cut [(.normal,⟨[(7,.pc 0 0)],[c4,.orow 84]⟩)])])
theorem zuS:zo8.OK Tryz.prog:=kA (za zoY (za zuJ (za zuO (za zsR zi)))) (by kernel_rfl)
noncomputable def zo9:=spA false [zoz,P50,zkA,zsG,zo8,zkQ,zk0] 16 3 Tryz.f16 ⟨[(0,.str),(1,.str)],[]⟩ [(.ret,⟨[(0,.val 71),(1,.val 76),(2,.bool)],[]⟩)] (hfind [(8,.cut [(.normal,⟨[(1,.str),(4,.pc 0 0),(5,.pc 1 0),(7,.pc 2 0),(9,.pc 3 0),(38,.bool)],[c21,c44,c53,c6]⟩)]),(26,.loop ⟨[(4,.pc 0 0),(5,.pc 1 0),(7,.pc 2 0),(12,.pc 3 0),(15,.row 4),(17,ii),(18,.pc 5 0),(19,.pc 6 0),(70,.sl 112),(71,ii),(72,ii)],[c21,c44,c53,c7,.orow 33,.cell [.sl 198,.sl 100,.row 7,ii,ii],.cell [.row 4,.row 8,.row 7,.row 9],.orow 84,.row 30,.row 81]⟩ [(.exit 0,⟨[(4,.pc 0 0),(5,.pc 1 0),(7,.pc 2 0),(15,.row 3),(17,ii),(18,.pc 4 0),(19,.pc 5 0)],[c21,c44,c53,.orow 33,.cell [.sl 198,.sl 100,.row 6,ii,ii],.cell [.row 3,.row 7,.row 6,.row 8],.orow 84,.row 30,.row 81]⟩)]),(39,.cut [(.normal,⟨[(4,.pc 0 0),(5,.pc 1 0),(7,.pc 2 0),(12,.pc 3 0),(15,.row 4),(17,ii),(18,.pc 5 0),(19,.pc 6 0),(70,.sl 112),(71,ii),(72,ii)],[c21,c44,c53,c7,.orow 33,.cell [.sl 198,.sl 100,.row 7,ii,ii],.cell [.row 4,.row 8,.row 7,.row 9],.orow 84,.row 30,.row 81]⟩)]),(41,.draw (od [1,3,5,6,8,10,13,14]) []),(42,.draw (od [1,3,5,7,9,11,13,14,16,18,21,22]) []),(46,.draw (od [1,3,5,7,9,11,13,15,17,19,21,23,25,27,29,31,33,35,37,39,41,43,45,47,49,51,53,55,57,58,60,63]) [(.normal,⟨[(4,.pc 0 0),(5,.pc 1 0),(6,.bool)],[c53,.cell [.row 2,.row 3,.row 4,.row 5],.orow 33,.row 30,.orow 84,.row 81]⟩)])])
theorem zuT:zo9.OK Tryz.prog:=kA (za zum (za K50 (za zsj (za zuH (za zuS (za zsx (za zsR zi))))))) (by kernel_rfl)
noncomputable def zpa:=spA false [zo9] 7 3 Tryz.f7 ⟨[(0,.str),(1,.str)],[]⟩ [(.ret,⟨[(0,.row 0),(1,.row 1),(2,.bool)],[.row 39,.row 45]⟩)] (hfind [(20,.loop ⟨[(7,.pc 0 0),(8,.pc 1 0),(10,.row 2),(11,.row 3),(24,ii),(25,ii)],[c53,.cell [.val 76],.row 39,.row 45]⟩ [(.exit 0,⟨[(10,.row 0),(11,.row 1)],[.row 39,.row 45]⟩)]),(32,.draw (od [1,3,5,7,9,11,13,15,17,19,21,23,25,27,29,31,33,35,36,38,40]) []),(33,.draw (od [1,3,5,7,9,11,13,15,17,19,21,23,25,27,29,31,33,35,36,38,40,42]) [])])
theorem zuU:zpa.OK Tryz.prog:=kA (za zuT zi) (by kernel_rfl)
noncomputable def zpb:=spA false [] 19 1 Tryz.f19 ⟨[(0,.val 33),(1,.pc 0 0)],[c48]⟩ [(.ret,⟨[(0,.bool)],[c48]⟩)] (hfind [])
theorem zuV:zpb.OK Tryz.prog:=kA zi (by kernel_rfl)
noncomputable def zpc:=spA false [zpb] 18 1 Tryz.f18 ⟨[(0,.sl 33),(1,.clo 19 [.pc 0 0])],[c48]⟩ [(.ret,⟨[(0,ii)],[c48]⟩)] (hfind [(6,.loop ⟨[(0,.sl 33),(1,.clo 19 [.pc 0 0]),(7,ii),(8,ii)],[c48]⟩ [(.ret,⟨[(4,ii)],[c48]⟩),(.exit 0,⟨[],[c48]⟩)])])
theorem zuW:zpc.OK Tryz.prog:=kA (za zuV zi) (by kernel_rfl)
noncomputable def zim:=spA false [] 11 1 Tryz.f11 ⟨[(0,ii)],[]⟩ [(.ret,⟨[(0,.bool)],[]⟩)] (hfind [(3,.cut [(.normal,⟨[(2,.bool)],[]⟩)])])
theorem zpd:zim.OK Tryz.prog:=kA zi (by kernel_rfl)
noncomputable def zpe:=spA false [zim] 17 1 Tryz.f17 ⟨[(0,.val 61),(1,.pc 0 0)],[c29]⟩ [(.ret,⟨[(0,.bool)],[c29]⟩)] (hfind [(3,.cut [(.normal,⟨[(3,.bool)],[c29]⟩)])])
theorem zuX:zpe.OK Tryz.prog:=kA (za zpd zi) (by kernel_rfl)
noncomputable def zpf:=spA false [zpe] 34 1 Tryz.f34 ⟨[(0,.sl 61),(1,.clo 17 [.pc 0 0])],[c29]⟩ [(.ret,⟨[(0,ii)],[c29]⟩)] (hfind [(6,.loop ⟨[(0,.sl 61),(1,.clo 17 [.pc 0 0]),(7,ii),(8,ii)],[c29]⟩ [(.ret,⟨[(4,ii)],[c29]⟩),(.exit 0,⟨[],[c29]⟩)])])
theorem zuY:zpf.OK Tryz.prog:=kA (za zuX zi) (by kernel_rfl)
noncomputable def zpg:=spA false [zpf] 20 1 Tryz.f20 ⟨[(0,.sl 61),(1,.clo 17 [.pc 0 0])],[c29]⟩ [(.ret,⟨[(0,.bool)],[c29]⟩)] (hfind [])
theorem zuZ:zpg.OK Tryz.prog:=kA (za zuY zi) (by kernel_rfl)
noncomputable def zph:=spA false [zpc,zpg] 9 2 Tryz.f9 ⟨[(0,.val 39)],[]⟩ [(.ret,⟨[(0,ii),(1,ii)],[]⟩)] (hfind [(8,.loop ⟨[(1,.pc 0 0),(4,.clo 17 [.pc 0 0]),(11,.sl 55),(12,ii),(13,ii)],[c29]⟩ [(.ret,⟨[(2,ii),(3,ii)],[]⟩),(.exit 0,⟨[],[]⟩)]),(16,.cut [(.normal,⟨[(1,.pc 0 0),(4,.clo 17 [.pc 0 0]),(11,.sl 55),(12,ii),(13,ii)],[c29]⟩),(.ret,⟨[(2,ii),(3,ii)],[]⟩)]),(28,.draw (od [1,3,5,7,9,11,13,15,17,19,21,23,25,27,29,31,33,34,37]) [(.normal,⟨[(1,.pc 0 0),(4,.clo 17 [.pc 0 0]),(6,.pc 1 0),(11,.sl 55),(12,ii),(13,ii),(42,.bool)],[c29,c48]⟩)])])
theorem zu0:zph.OK Tryz.prog:=kA (za zuW (za zuZ zi)) (by kernel_rfl)
noncomputable def zk1:=spA false [] 13 1 Tryz.f13 ⟨[(0,ii)],[]⟩ [(.ret,⟨[(0,.bool)],[]⟩)] (hfind [])
theorem zsS:zk1.OK Tryz.prog:=kA zi (by kernel_rfl)
noncomputable def zpi:=spA false [zpa,zph,zim,zk1] 8 1 Tryz.f8 ⟨[],[]⟩ [(.ret,⟨[(0,.bool)],[]⟩)] (hfind [(15,.cut [(.normal,⟨[(0,.bool)],[]⟩)])])
theorem zu1:zpi.OK Tryz.prog:=kA (za zuU (za zu0 (za zpd (za zsS zi)))) (by kernel_rfl)
noncomputable def zpj:=spA false [] 12 1 Tryz.f12 ⟨[(0,ii)],[]⟩ [(.ret,⟨[(0,.bool)],[]⟩)] (hfind [(3,.cut [(.normal,⟨[(2,.bool)],[]⟩)])])
theorem zu2:zpj.OK Tryz.prog:=kA zi (by kernel_rfl)
noncomputable def zfK:=spA false [zpi,zim,zpj,zk1] 4 1 Tryz.f4 ⟨[(0,ii)],[]⟩ [(.ret,⟨[(0,.bool)],[]⟩)] (hfind [(5,.cut [(.normal,⟨[(2,.bool)],[]⟩)])])
theorem zu3:zfK.OK Tryz.prog:=kA (za zu1 (za zpd (za zu2 (za zsS zi)))) (by kernel_rfl)
end Go.Px
