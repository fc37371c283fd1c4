/- Part Ch: PxT03. -/
import Derived.Test.YtghhopjjddppbaaGreatDoorProg
import Derived.Test.YtghhopjjddppbaaGreatDoorB1
import Derived.Test.YtghhopjjddppbaaGreatDoorB2
import Derived.Test.YtghhopjjddppbaaGreatDoorSf
namespace Go.Px
open Go.Proofs
set_option linter.unusedVariables false
set_option maxRecDepth 100000
theorem zo:Tryz.prog.follows .mixedOrders=true:=by kernel_rfl
def GLk:World→FS→Prop:=fun w σ=>(∃ t p,σ 1 0=some (.iface t p))∧(∃ t p,σ 2 0=some (.iface t p))∧Vr 3 .u64 Lib.pow10Tab w σ
theorem glm {σ τ:FS}{w w':World}{h:za}(l:σ.le τ) (hx:Ext w h w') (g:GLk w σ):GLk w' τ:=by
  obtain ⟨⟨t,p,a⟩,⟨t',p',b⟩,c⟩:=g
  exact ⟨⟨t,p,l _ _ _ a⟩,⟨t',p',l _ _ _ b⟩,c.mono l hx⟩
structure q8 where
  Kind_:Int
  Text_:ByteArray
  Num_:Int
  At_:Int
structure q9 where
  Kind_:Int
  Text_:ByteArray
  Num_:Int
  At_:Int
  Kids_:(Sl q9)
structure qa where
  Kind_:Int
  Text_:ByteArray
  Num_:Int
  At_:Int
  Kids_:(Sl qa)
abbrev DT:List (Nat×Type):=[(52,q8),(25,q9),(22,Int),(9,ByteArray),(34,qa),(3,Int),(5,Int)]
abbrev DD:Nat→Type:=zmz DT
def ET:List ((T:Nat)×TyE DD T):=[⟨52,true,[.int .i64,.str,.int .i64,.int .i64],fun (x:q8)=>(x.Kind_,x.Text_,x.Num_,x.At_,()),fun (a0,a1,a2,a3,_)=>some (show q8 from ⟨a0,a1,a2,a3⟩),fun x y h=>by cases h;rfl⟩,
  ⟨25,true,[.int .i64,.str,.int .i64,.int .i64,.sl 25],fun (x:q9)=>(x.Kind_,x.Text_,x.Num_,x.At_,x.Kids_,()),fun (a0,a1,a2,a3,a4,_)=>some (show q9 from ⟨a0,a1,a2,a3,a4⟩),fun x y h=>by cases h;rfl⟩,
  ⟨22,false,[.int .i64],fun (x:Int)=>(x,()),fun (a0,_)=>some (show Int from a0),fun x y h=>by cases h;rfl⟩,
  ⟨9,false,[.str],fun (x:ByteArray)=>(x,()),fun (a0,_)=>some (show ByteArray from a0),fun x y h=>by cases h;rfl⟩,
  ⟨34,true,[.int .i64,.str,.int .i64,.int .i64,.sl 34],fun (x:qa)=>(x.Kind_,x.Text_,x.Num_,x.At_,x.Kids_,()),fun (a0,a1,a2,a3,a4,_)=>some (show qa from ⟨a0,a1,a2,a3,a4⟩),fun x y h=>by cases h;rfl⟩,
  ⟨3,false,[.int .i64],fun (x:Int)=>(x,()),fun (a0,_)=>some (show Int from a0),fun x y h=>by cases h;rfl⟩,
  ⟨5,false,[.int .u8],fun (x:Int)=>(x,()),fun (a0,_)=>some (show Int from a0),fun x y h=>by cases h;rfl⟩]
def CC:Cod:=zpF DD ET GLk glm (zok 95 5 DD) (zlm 95) (znc 95 5 DD)
def I0:Sig:={ts:=[(0,.str),(1,.str)],es:=[]}
def O0:List (XK×Sig):=[(.ret,{ts:=[(0,.int .i64)],es:=[]})]
def F0 (x:I0.ty CC):Option (ze CC O0):=WA x
def P0:Spec CC:=⟨27,1,I0,O0,F0⟩
theorem K0:P0.OK Tryz.prog:=zit (fn:=Tryz.f27) (by kernel_rfl) (by kernel_rfl) (by kernel_rfl) fun s c w=>Tryz.strings_Count_one s c w
def I1:Sig:={ts:=[(0,.str),(1,.int .u8)],es:=[]}
def O1:List (XK×Sig):=[(.ret,{ts:=[(0,.int .i64)],es:=[]})]
def F1 (x:I1.ty CC):Option (ze CC O1):=yi x
def P1:Spec CC:=⟨28,1,I1,O1,F1⟩
theorem K1:P1.OK Tryz.prog:=zaA (fn:=Tryz.f28) (by kernel_rfl) (by kernel_rfl) (by kernel_rfl) fun s c hs w=>Tryz.strings_LastIndexByte s c hs w
def I2:Sig:={ts:=[(0,.str),(1,.int .i64)],es:=[]}
def O2:List (XK×Sig):=[(.ret,{ts:=[(0,.int .i64),(1,.int .i64)],es:=[]})]
def H2:Nat→Option Hint:=hfind [(4,.cut [(.normal,{ts:=[(0,.str),(1,.int .i64),(13,.bool)],es:=[]})]),(11,.draw [(0,true),(1,true),(2,true),(5,true),(6,true),(7,true),(8,true),(3,false),(4,true),(9,false),(10,true),(11,true),(12,true)] [])]
noncomputable def F2 (x:I2.ty CC):Option (ze CC O2):=zC ⟨false⟩ [P0,P1] lpO Tryz.prog Tryz.f15 2 I2 O2 H2 x
noncomputable def P2:Spec CC:=⟨15,2,I2,O2,F2⟩
theorem K2:Spec.OK Tryz.prog P2:=zl (zd K0 (zd K1 zu)) zo zn H2 (by kernel_rfl) (by kernel_rfl) (by kernel_rfl) fun x=>rfl
def I3:Sig:={ts:=[(0,.str),(1,.int .i64)],es:=[]}
def O3:List (XK×Sig):=[(.ret,{ts:=[(0,.int .i64),(1,.int .i64)],es:=[]})]
def H3:Nat→Option Hint:=hfind [(4,.cut [(.normal,{ts:=[(0,.str),(1,.int .i64),(16,.bool)],es:=[]})]),(18,.loop {ts:=[(0,.str),(1,.int .i64),(6,.int .i64),(7,.int .i64),(8,.int .i64)],es:=[]} [(.exit 0,{ts:=[(6,.int .i64),(7,.int .i64)],es:=[]})]),(31,.cut [(.normal,{ts:=[(0,.str),(1,.int .i64),(6,.int .i64),(7,.int .i64),(8,.int .i64)],es:=[]})])]
noncomputable def F3 (x:I3.ty CC):Option (ze CC O3):=zC ⟨false⟩ [] lpO Tryz.prog Tryz.f16 2 I3 O3 H3 x
noncomputable def P3:Spec CC:=⟨16,2,I3,O3,F3⟩
theorem K3:Spec.OK Tryz.prog P3:=zl zu zo zn H3 (by kernel_rfl) (by kernel_rfl) (by kernel_rfl) fun x=>rfl
def I4:Sig:={ts:=[(0,.int .u8)],es:=[]}
def O4:List (XK×Sig):=[(.ret,{ts:=[(0,.bool)],es:=[]})]
def H4:Nat→Option Hint:=hfind []
noncomputable def F4 (x:I4.ty CC):Option (ze CC O4):=zC ⟨false⟩ [] lpO Tryz.prog Tryz.f30 1 I4 O4 H4 x
noncomputable def P4:Spec CC:=⟨30,1,I4,O4,F4⟩
theorem K4:Spec.OK Tryz.prog P4:=zl zu zo zn H4 (by kernel_rfl) (by kernel_rfl) (by kernel_rfl) fun x=>rfl
def I5:Sig:={ts:=[(0,.str),(1,.int .i64),(2,.clo 30 [])],es:=[]}
def O5:List (XK×Sig):=[(.ret,{ts:=[(0,.int .i64)],es:=[]})]
def H5:Nat→Option Hint:=hfind [(4,.loop {ts:=[(0,.str),(1,.int .i64),(2,.clo 30 [])],es:=[]} [(.exit 0,{ts:=[(1,.int .i64)],es:=[]})]),(7,.cut [(.normal,{ts:=[(0,.str),(1,.int .i64),(2,.clo 30 []),(17,.bool)],es:=[]})])]
noncomputable def F5 (x:I5.ty CC):Option (ze CC O5):=zC ⟨false⟩ [P4] lpO Tryz.prog Tryz.f29 1 I5 O5 H5 x
noncomputable def P5:Spec CC:=⟨29,1,I5,O5,F5⟩
theorem K5:Spec.OK Tryz.prog P5:=zl (zd K4 zu) zo zn H5 (by kernel_rfl) (by kernel_rfl) (by kernel_rfl) fun x=>rfl
def I6:Sig:={ts:=[(0,.int .u8)],es:=[]}
def O6:List (XK×Sig):=[(.ret,{ts:=[(0,.bool)],es:=[]})]
def H6:Nat→Option Hint:=hfind [(3,.cut [(.normal,{ts:=[(2,.bool)],es:=[]})])]
noncomputable def F6 (x:I6.ty CC):Option (ze CC O6):=zC ⟨false⟩ [] lpO Tryz.prog Tryz.f31 1 I6 O6 H6 x
noncomputable def P6:Spec CC:=⟨31,1,I6,O6,F6⟩
theorem K6:Spec.OK Tryz.prog P6:=zl zu zo zn H6 (by kernel_rfl) (by kernel_rfl) (by kernel_rfl) fun x=>rfl
def I7:Sig:={ts:=[(0,.str),(1,.int .i64),(2,.clo 31 [])],es:=[]}
def O7:List (XK×Sig):=[(.ret,{ts:=[(0,.int .i64)],es:=[]})]
def H7:Nat→Option Hint:=hfind [(4,.loop {ts:=[(0,.str),(1,.int .i64),(2,.clo 31 [])],es:=[]} [(.exit 0,{ts:=[(1,.int .i64)],es:=[]})]),(7,.cut [(.normal,{ts:=[(0,.str),(1,.int .i64),(2,.clo 31 []),(17,.bool)],es:=[]})])]
noncomputable def F7 (x:I7.ty CC):Option (ze CC O7):=zC ⟨false⟩ [P6] lpO Tryz.prog Tryz.f29 1 I7 O7 H7 x
noncomputable def P7:Spec CC:=⟨29,1,I7,O7,F7⟩
theorem K7:Spec.OK Tryz.prog P7:=zl (zd K6 zu) zo zn H7 (by kernel_rfl) (by kernel_rfl) (by kernel_rfl) fun x=>rfl
def I8:Sig:={ts:=[(0,.str),(1,.int .i64),(2,.int .i64)],es:=[]}
def O8:List (XK×Sig):=[(.ret,{ts:=[(0,.int .i64),(1,.nili)],es:=[]}),(.ret,{ts:=[(0,.int .i64),(1,.ifc 122 (.und))],es:=[]})]
def F8 (x:I8.ty CC):Option (ze CC O8):=Xe x
def P8:Spec CC:=⟨67,2,I8,O8,F8⟩
theorem K8:P8.OK Tryz.prog:=zeF (fn:=Tryz.f67) (by kernel_rfl) (by kernel_rfl) (by kernel_rfl) (fun s hs v h w=>Tryz.strconv_ParseInt_10_at64_ok s hs v h w) (fun s hs h w σ hg hw=>by
    obtain ⟨⟨t,p,a⟩,_⟩:=hg
    refine (Tryz.strconv_ParseInt_10_at64_syntax s hs h _ w (hw 1 0 _ a) (.inr ⟨_,_,rfl⟩)).mono ?_
    rintro e w' ⟨N,rfl,_,_,hb⟩
    exact ⟨_,rfl,hb⟩) (fun s hs h w σ hg hw=>by
    obtain ⟨_,⟨t,p,a⟩,_⟩:=hg
    refine (Tryz.strconv_ParseInt_10_at64_range s hs h _ w (hw 2 0 _ a) (.inr ⟨_,_,rfl⟩)).mono ?_
    rintro e w' ⟨N,rfl,_,_,hb⟩
    exact ⟨_,rfl,hb⟩)
def I9:Sig:={ts:=[(0,.int .u8)],es:=[]}
def O9:List (XK×Sig):=[(.ret,{ts:=[(0,.bool)],es:=[]})]
def H9:Nat→Option Hint:=hfind [(3,.cut [(.normal,{ts:=[(2,.bool)],es:=[]})])]
noncomputable def F9 (x:I9.ty CC):Option (ze CC O9):=zC ⟨false⟩ [] lpO Tryz.prog Tryz.f33 1 I9 O9 H9 x
noncomputable def P9:Spec CC:=⟨33,1,I9,O9,F9⟩
theorem K9:Spec.OK Tryz.prog P9:=zl zu zo zn H9 (by kernel_rfl) (by kernel_rfl) (by kernel_rfl) fun x=>rfl
def I10:Sig:={ts:=[(0,.str),(1,.int .i64),(2,.int .i64)],es:=[]}
def O10:List (XK×Sig):=[(.ret,{ts:=[(0,.val 52),(1,.int .i64)],es:=[]})]
def H10:Nat→Option Hint:=hfind [(5,.cut [(.normal,{ts:=[(0,.str),(1,.int .i64),(2,.int .i64),(6,.pc 0 0),(8,.str),(9,.int .i64),(10,.nili)],es:=[.cell [.int .i64,.str,.int .i64,.int .i64]]}),(.normal,{ts:=[(0,.str),(1,.int .i64),(2,.int .i64),(6,.pc 0 0),(8,.str),(9,.int .i64),(10,.ifc 122 (.und))],es:=[.cell [.int .i64,.str,.int .i64,.int .i64]]})])]
noncomputable def F10 (x:I10.ty CC):Option (ze CC O10):=zC ⟨false⟩ [P8,P9] lpO Tryz.prog Tryz.f32 2 I10 O10 H10 x
noncomputable def P10:Spec CC:=⟨32,2,I10,O10,F10⟩
theorem K10:Spec.OK Tryz.prog P10:=zl (zd K8 (zd K9 zu)) zo zn H10 (by kernel_rfl) (by kernel_rfl) (by kernel_rfl) fun x=>rfl
def I11:Sig:={ts:=[(0,.int .u8)],es:=[]}
def O11:List (XK×Sig):=[(.ret,{ts:=[(0,.bool)],es:=[]})]
def H11:Nat→Option Hint:=hfind [(3,.cut [(.normal,{ts:=[(2,.bool)],es:=[]})])]
noncomputable def F11 (x:I11.ty CC):Option (ze CC O11):=zC ⟨false⟩ [P9,P6] lpO Tryz.prog Tryz.f35 1 I11 O11 H11 x
noncomputable def P11:Spec CC:=⟨35,1,I11,O11,F11⟩
theorem K11:Spec.OK Tryz.prog P11:=zl (zd K9 (zd K6 zu)) zo zn H11 (by kernel_rfl) (by kernel_rfl) (by kernel_rfl) fun x=>rfl
def I12:Sig:={ts:=[(0,.str),(1,.int .i64),(2,.clo 35 [])],es:=[]}
def O12:List (XK×Sig):=[(.ret,{ts:=[(0,.int .i64)],es:=[]})]
def H12:Nat→Option Hint:=hfind [(4,.loop {ts:=[(0,.str),(1,.int .i64),(2,.clo 35 [])],es:=[]} [(.exit 0,{ts:=[(1,.int .i64)],es:=[]})]),(7,.cut [(.normal,{ts:=[(0,.str),(1,.int .i64),(2,.clo 35 []),(17,.bool)],es:=[]})])]
noncomputable def F12 (x:I12.ty CC):Option (ze CC O12):=zC ⟨false⟩ [P11] lpO Tryz.prog Tryz.f29 1 I12 O12 H12 x
noncomputable def P12:Spec CC:=⟨29,1,I12,O12,F12⟩
theorem K12:Spec.OK Tryz.prog P12:=zl (zd K11 zu) zo zn H12 (by kernel_rfl) (by kernel_rfl) (by kernel_rfl) fun x=>rfl
def I13:Sig:={ts:=[(0,.str)],es:=[]}
def O13:List (XK×Sig):=[(.ret,{ts:=[(0,.bool)],es:=[]})]
def H13:Nat→Option Hint:=hfind [(9,.cut [(.normal,{ts:=[(4,.bool)],es:=[]})]),(13,.cut [(.normal,{ts:=[(4,.bool)],es:=[]})]),(17,.cut [(.normal,{ts:=[(4,.bool)],es:=[]})]),(21,.cut [(.normal,{ts:=[(4,.bool)],es:=[]})]),(25,.cut [(.normal,{ts:=[(4,.bool)],es:=[]})]),(29,.cut [(.normal,{ts:=[(4,.bool)],es:=[]})]),(33,.cut [(.normal,{ts:=[(4,.bool)],es:=[]})]),(37,.cut [(.normal,{ts:=[(4,.bool)],es:=[]})]),(41,.cut [(.normal,{ts:=[(4,.bool)],es:=[]})]),(45,.cut [(.normal,{ts:=[(4,.bool)],es:=[]})]),(49,.cut [(.normal,{ts:=[(4,.bool)],es:=[]})]),(53,.cut [(.normal,{ts:=[(4,.bool)],es:=[]})]),(57,.cut [(.normal,{ts:=[(4,.bool)],es:=[]})]),(61,.cut [(.normal,{ts:=[(4,.bool)],es:=[]})]),(65,.cut [(.normal,{ts:=[(4,.bool)],es:=[]})]),(69,.cut [(.normal,{ts:=[(4,.bool)],es:=[]})]),(73,.cut [(.normal,{ts:=[(4,.bool)],es:=[]})]),(77,.cut [(.normal,{ts:=[(4,.bool)],es:=[]})]),(81,.cut [(.normal,{ts:=[(4,.bool)],es:=[]})])]
noncomputable def F13 (x:I13.ty CC):Option (ze CC O13):=zC ⟨false⟩ [] lpO Tryz.prog Tryz.f68 1 I13 O13 H13 x
noncomputable def P13:Spec CC:=⟨68,1,I13,O13,F13⟩
theorem K13:Spec.OK Tryz.prog P13:=zl zu zo zn H13 (by kernel_rfl) (by kernel_rfl) (by kernel_rfl) fun x=>rfl
def I14:Sig:={ts:=[(0,.str),(1,.int .i64),(2,.int .i64)],es:=[]}
def O14:List (XK×Sig):=[(.ret,{ts:=[(0,.val 52),(1,.int .i64)],es:=[]})]
def H14:Nat→Option Hint:=hfind [(15,.cut [(.normal,{ts:=[(6,.pc 0 0),(8,.pc 1 0)],es:=[.cell [.int .i64,.str,.int .i64,.int .i64],.cell [.int .i64,.str,.int .i64,.int .i64]]})])]
noncomputable def F14 (x:I14.ty CC):Option (ze CC O14):=zC ⟨false⟩ [P13] lpO Tryz.prog Tryz.f34 2 I14 O14 H14 x
noncomputable def P14:Spec CC:=⟨34,2,I14,O14,F14⟩
theorem K14:Spec.OK Tryz.prog P14:=zl (zd K13 zu) zo zn H14 (by kernel_rfl) (by kernel_rfl) (by kernel_rfl) fun x=>rfl
def I15:Sig:={ts:=[(0,.str),(1,.str)],es:=[]}
def O15:List (XK×Sig):=[(.ret,{ts:=[(0,.bool)],es:=[]})]
def H15:Nat→Option Hint:=hfind [(3,.cut [(.normal,{ts:=[(4,.bool)],es:=[]})])]
noncomputable def F15 (x:I15.ty CC):Option (ze CC O15):=zC ⟨false⟩ [] lpO Tryz.prog Tryz.f92 1 I15 O15 H15 x
noncomputable def P15:Spec CC:=⟨92,1,I15,O15,F15⟩
theorem K15:Spec.OK Tryz.prog P15:=zl zu zo zn H15 (by kernel_rfl) (by kernel_rfl) (by kernel_rfl) fun x=>rfl
def I16:Sig:={ts:=[(0,.str),(1,.str)],es:=[]}
def O16:List (XK×Sig):=[(.ret,{ts:=[(0,.bool)],es:=[]})]
def H16:Nat→Option Hint:=hfind []
noncomputable def F16 (x:I16.ty CC):Option (ze CC O16):=zC ⟨false⟩ [P15] lpO Tryz.prog Tryz.f69 1 I16 O16 H16 x
noncomputable def P16:Spec CC:=⟨69,1,I16,O16,F16⟩
theorem K16:Spec.OK Tryz.prog P16:=zl (zd K15 zu) zo zn H16 (by kernel_rfl) (by kernel_rfl) (by kernel_rfl) fun x=>rfl
def I17:Sig:={ts:=[(0,.str),(1,.int .u8)],es:=[]}
def O17:List (XK×Sig):=[(.ret,{ts:=[(0,.int .i64)],es:=[]})]
def F17 (x:I17.ty CC):Option (ze CC O17):=XY x
def P17:Spec CC:=⟨70,1,I17,O17,F17⟩
theorem K17:P17.OK Tryz.prog:=zdt (fn:=Tryz.f70) (by kernel_rfl) (by kernel_rfl) (by kernel_rfl) fun s c w=>Tryz.strings_IndexByte s c w
def I18:Sig:={ts:=[(0,.str)],es:=[]}
def O18:List (XK×Sig):=[(.ret,{ts:=[(0,.str)],es:=[]})]
def H18:Nat→Option Hint:=hfind [(6,.loop {ts:=[(0,.str),(5,.agg [.str,.str,.str]),(6,.int .i64)],es:=[]} [(.ret,{ts:=[(2,.str)],es:=[]}),(.exit 0,{ts:=[(0,.str)],es:=[]})])]
noncomputable def F18 (x:I18.ty CC):Option (ze CC O18):=zC ⟨false⟩ [P16,P17] lpO Tryz.prog Tryz.f36 1 I18 O18 H18 x
noncomputable def P18:Spec CC:=⟨36,1,I18,O18,F18⟩
theorem K18:Spec.OK Tryz.prog P18:=zl (zd K16 (zd K17 zu)) zo zn H18 (by kernel_rfl) (by kernel_rfl) (by kernel_rfl) fun x=>rfl
def I19:Sig:={ts:=[(0,.str)],es:=[]}
def O19:List (XK×Sig):=[(.ret,{ts:=[(0,.row 0),(1,.int .i64),(2,.int .i64)],es:=[.row 52]})]
def H19:Nat→Option Hint:=hfind [(2,.cut [(.ret,{ts:=[(2,.row 0),(3,.int .i64),(4,.int .i64)],es:=[.row 52]})]),(19,.loop {ts:=[(0,.str),(5,.row 0),(6,.int .i64)],es:=[.row 52]} [(.ret,{ts:=[(2,.nils),(3,.int .i64),(4,.int .i64)],es:=[]}),(.exit 0,{ts:=[(0,.str),(5,.row 0)],es:=[.row 52]})]),(26,.cut [(.normal,{ts:=[(0,.str),(5,.row 0),(6,.int .i64)],es:=[.row 52]}),(.ret,{ts:=[(2,.nils),(3,.int .i64),(4,.int .i64)],es:=[]})]),(36,.cut [(.normal,{ts:=[(0,.str),(5,.row 0),(6,.int .i64),(7,.pc 1 0),(8,.int .i64),(9,.int .u8),(29,.bool)],es:=[.row 52,.cell [.int .i64,.str,.int .i64,.int .i64]]})]),(37,.cut [(.exit 1,{ts:=[(0,.str),(5,.row 0),(6,.int .i64)],es:=[.row 52]}),(.normal,{ts:=[(0,.str),(5,.row 0),(6,.int .i64),(7,.pc 1 0),(8,.int .i64)],es:=[.row 52,.cell [.int .i64,.str,.int .i64,.int .i64]]})]),(49,.cut [(.normal,{ts:=[(0,.str),(5,.row 0),(6,.int .i64),(7,.pc 1 0),(8,.int .i64)],es:=[.row 52,.cell [.int .i64,.str,.int .i64,.int .i64]]})]),(53,.cut [(.normal,{ts:=[(0,.str),(5,.row 0),(6,.int .i64),(7,.pc 1 0),(8,.int .i64)],es:=[.row 52,.cell [.int .i64,.str,.int .i64,.int .i64]]})]),(59,.cut [(.normal,{ts:=[(0,.str),(5,.row 0),(6,.int .i64),(7,.pc 1 0),(8,.int .i64)],es:=[.row 52,.cell [.int .i64,.str,.int .i64,.int .i64]]})])]
noncomputable def F19 (x:I19.ty CC):Option (ze CC O19):=zC ⟨false⟩ [P5,P6,P7,P10,P9,P12,P14,P18] lpO Tryz.prog Tryz.f17 3 I19 O19 H19 x
noncomputable def P19:Spec CC:=⟨17,3,I19,O19,F19⟩
theorem K19:Spec.OK Tryz.prog P19:=zl (zd K5 (zd K6 (zd K7 (zd K10 (zd K9 (zd K12 (zd K14 (zd K18 zu)))))))) zo zn H19 (by kernel_rfl) (by kernel_rfl) (by kernel_rfl) fun x=>rfl
def I20:Sig:={ts:=[(0,.pc 0 0)],es:=[.cell [.sl 52,.int .i64]]}
def O20:List (XK×Sig):=[(.ret,{ts:=[(0,.val 52)],es:=[.cell [.sl 52,.int .i64]]})]
def H20:Nat→Option Hint:=hfind []
noncomputable def F20 (x:I20.ty CC):Option (ze CC O20):=zC ⟨false⟩ [] lpO Tryz.prog Tryz.f19 1 I20 O20 H20 x
noncomputable def P20:Spec CC:=⟨19,1,I20,O20,F20⟩
theorem K20:Spec.OK Tryz.prog P20:=zl zu zo zn H20 (by kernel_rfl) (by kernel_rfl) (by kernel_rfl) fun x=>rfl
def I21:Sig:={ts:=[(0,.pc 0 0),(1,.str)],es:=[.cell [.sl 52,.int .i64]]}
def O21:List (XK×Sig):=[(.ret,{ts:=[(0,.bool)],es:=[.cell [.sl 52,.int .i64]]})]
def H21:Nat→Option Hint:=hfind [(5,.cut [(.normal,{ts:=[(4,.bool)],es:=[.cell [.sl 52,.int .i64]]})])]
noncomputable def F21 (x:I21.ty CC):Option (ze CC O21):=zC ⟨false⟩ [P20] lpO Tryz.prog Tryz.f37 1 I21 O21 H21 x
noncomputable def P21:Spec CC:=⟨37,1,I21,O21,F21⟩
theorem K21:Spec.OK Tryz.prog P21:=zl (zd K20 zu) zo zn H21 (by kernel_rfl) (by kernel_rfl) (by kernel_rfl) fun x=>rfl
def I22:Sig:={ts:=[(0,.pc 0 0),(1,.str)],es:=[.cell [.sl 52,.int .i64]]}
def O22:List (XK×Sig):=[(.ret,{ts:=[(0,.bool)],es:=[.cell [.sl 52,.int .i64]]})]
def H22:Nat→Option Hint:=hfind []
noncomputable def F22 (x:I22.ty CC):Option (ze CC O22):=zC ⟨false⟩ [P21] lpO Tryz.prog Tryz.f20 1 I22 O22 H22 x
noncomputable def P22:Spec CC:=⟨20,1,I22,O22,F22⟩
theorem K22:Spec.OK Tryz.prog P22:=zl (zd K21 zu) zo zn H22 (by kernel_rfl) (by kernel_rfl) (by kernel_rfl) fun x=>rfl
def I23:Sig:={ts:=[(0,.pc 0 0),(1,.int .i64)],es:=[.cell [.sl 52,.int .i64]]}
def O23:List (XK×Sig):=[(.pan (.ifc 45 (.agg [.int .i64,.int .i64])),{ts:=[],es:=[.cell [.sl 52,.int .i64]]})]
def H23:Nat→Option Hint:=hfind []
noncomputable def F23 (x:I23.ty CC):Option (ze CC O23):=zC ⟨false⟩ [P20] lpO Tryz.prog Tryz.f41 0 I23 O23 H23 x
noncomputable def P23:Spec CC:=⟨41,0,I23,O23,F23⟩
theorem K23:Spec.OK Tryz.prog P23:=zl (zd K20 zu) zo zn H23 (by kernel_rfl) (by kernel_rfl) (by kernel_rfl) fun x=>rfl
def I24:Sig:={ts:=[(0,.pc 0 0),(1,.int .i64)],es:=[.cell [.sl 52,.int .i64]]}
def O24:List (XK×Sig):=[(.pan (.ifc 45 (.agg [.int .i64,.int .i64])),{ts:=[],es:=[.cell [.sl 52,.int .i64]]}),(.ret,{ts:=[(0,.val 52)],es:=[.cell [.sl 52,.int .i64]]})]
def H24:Nat→Option Hint:=hfind []
noncomputable def F24 (x:I24.ty CC):Option (ze CC O24):=zC ⟨false⟩ [P20,P23] lpO Tryz.prog Tryz.f71 1 I24 O24 H24 x
noncomputable def P24:Spec CC:=⟨71,1,I24,O24,F24⟩
theorem K24:Spec.OK Tryz.prog P24:=zl (zd K20 (zd K23 zu)) zo zn H24 (by kernel_rfl) (by kernel_rfl) (by kernel_rfl) fun x=>rfl
def I25:Sig:={ts:=[(0,.pc 0 0)],es:=[.cell [.sl 52,.int .i64]]}
def O25:List (XK×Sig):=[(.pan (.ifc 45 (.agg [.int .i64,.int .i64])),{ts:=[],es:=[.cell [.sl 52,.int .i64]]}),(.ret,{ts:=[(0,.agg [.int .i64,.str,.int .i64,.int .i64,.nils])],es:=[.cell [.sl 52,.int .i64]]})]
def H25:Nat→Option Hint:=hfind []
noncomputable def F25 (x:I25.ty CC):Option (ze CC O25):=zC ⟨false⟩ [P24] lpO Tryz.prog Tryz.f38 1 I25 O25 H25 x
noncomputable def P25:Spec CC:=⟨38,1,I25,O25,F25⟩
theorem K25:Spec.OK Tryz.prog P25:=zl (zd K24 zu) zo zn H25 (by kernel_rfl) (by kernel_rfl) (by kernel_rfl) fun x=>rfl
def I26:Sig:={ts:=[(0,.pc 0 0),(1,.str)],es:=[.cell [.sl 52,.int .i64]]}
def O26:List (XK×Sig):=[(.pan (.ifc 45 (.agg [.int .i64,.int .i64])),{ts:=[],es:=[.cell [.sl 52,.int .i64]]}),(.ret,{ts:=[],es:=[.cell [.sl 52,.int .i64]]})]
def H26:Nat→Option Hint:=hfind []
noncomputable def F26 (x:I26.ty CC):Option (ze CC O26):=zC ⟨false⟩ [P22,P23] lpO Tryz.prog Tryz.f22 0 I26 O26 H26 x
noncomputable def P26:Spec CC:=⟨22,0,I26,O26,F26⟩
theorem K26:Spec.OK Tryz.prog P26:=zl (zd K22 (zd K23 zu)) zo zn H26 (by kernel_rfl) (by kernel_rfl) (by kernel_rfl) fun x=>rfl
def I27:Sig:={ts:=[(0,.pc 0 0)],es:=[.cell [.sl 52,.int .i64]]}
def O27:List (XK×Sig):=[(.ret,{ts:=[(0,.val 25)],es:=[.cell [.sl 52,.int .i64]]}),(.pan (.ifc 45 (.agg [.int .i64,.int .i64])),{ts:=[],es:=[.cell [.sl 52,.int .i64]]})]
def H27:Nat→Option Hint:=hfind [(14,.cut [(.normal,{ts:=[(0,.pc 0 0),(2,.pc 1 0),(3,.pc 2 0)],es:=[.cell [.sl 52,.int .i64],.cell [.int .i64,.str,.int .i64,.int .i64,.nils],.cell [.int .i64,.str,.int .i64,.int .i64,.nils]]}),(.pan (.ifc 45 (.agg [.int .i64,.int .i64])),{ts:=[],es:=[.cell [.sl 52,.int .i64]]})]),(20,.cut [(.normal,{ts:=[(0,.pc 0 0),(2,.pc 1 0),(3,.pc 2 0)],es:=[.cell [.sl 52,.int .i64],.cell [.int .i64,.str,.int .i64,.int .i64,.nils],.cell [.int .i64,.str,.int .i64,.int .i64,.nils]]})])]
noncomputable def F27 (x:I27.ty CC):Option (ze CC O27):=zC ⟨false⟩ [P20,P22,P26,P25] lpO Tryz.prog Tryz.f42 1 I27 O27 H27 x
noncomputable def P27:Spec CC:=⟨42,1,I27,O27,F27⟩
theorem K27:Spec.OK Tryz.prog P27:=zl (zd K20 (zd K22 (zd K26 (zd K25 zu)))) zo zn H27 (by kernel_rfl) (by kernel_rfl) (by kernel_rfl) fun x=>rfl
def I28:Sig:={ts:=[(0,.pc 0 0)],es:=[.cell [.sl 52,.int .i64]]}
def O28:List (XK×Sig):=[(.pan (.ifc 45 (.agg [.int .i64,.int .i64])),{ts:=[],es:=[.cell [.sl 52,.int .i64]]}),(.ret,{ts:=[(0,.agg [.int .i64,.str,.int .i64,.int .i64,.row 1])],es:=[.cell [.sl 52,.int .i64],.row 25]})]
def H28:Nat→Option Hint:=hfind []
noncomputable def F28 (x:I28.ty CC):Option (ze CC O28):=zC ⟨false⟩ [P25,P26,P27] lpO Tryz.prog Tryz.f40 1 I28 O28 H28 x
noncomputable def P28:Spec CC:=⟨40,1,I28,O28,F28⟩
theorem K28:Spec.OK Tryz.prog P28:=zl (zd K25 (zd K26 (zd K27 zu))) zo zn H28 (by kernel_rfl) (by kernel_rfl) (by kernel_rfl) fun x=>rfl
def I29:Sig:={ts:=[(0,.pc 0 0),(1,.clo 40 [.tup [.pc 0 0]])],es:=[.cell [.sl 52,.int .i64]]}
def O29:List (XK×Sig):=[(.pan (.ifc 45 (.agg [.int .i64,.int .i64])),{ts:=[],es:=[.cell [.sl 52,.int .i64]]}),(.ret,{ts:=[(0,.row 1)],es:=[.cell [.sl 52,.int .i64],.row 25]})]
def H29:Nat→Option Hint:=hfind [(6,.loop {ts:=[(0,.pc 0 0),(1,.clo 40 [.tup [.pc 0 0]]),(5,.row 1)],es:=[.cell [.sl 52,.int .i64],.row 25]} [(.pan (.ifc 45 (.agg [.int .i64,.int .i64])),{ts:=[],es:=[.cell [.sl 52,.int .i64]]}),(.exit 0,{ts:=[(5,.row 1)],es:=[.cell [.sl 52,.int .i64],.row 25]})])]
noncomputable def F29 (x:I29.ty CC):Option (ze CC O29):=zC ⟨false⟩ [P28,P22] lpO Tryz.prog Tryz.f39 1 I29 O29 H29 x
noncomputable def P29:Spec CC:=⟨39,1,I29,O29,F29⟩
theorem K29:Spec.OK Tryz.prog P29:=zl (zd K28 (zd K22 zu)) zo zn H29 (by kernel_rfl) (by kernel_rfl) (by kernel_rfl) fun x=>rfl
def I30:Sig:={ts:=[(0,.agg [.int .i64,.str,.int .i64,.int .i64,.nils]),(1,.pc 0 0)],es:=[.cell [.int .i64]]}
def O30:List (XK×Sig):=[(.ret,{ts:=[(0,.agg [.int .i64,.str,.int .i64,.int .i64,.nils])],es:=[.cell [.int .i64]]})]
def H30:Nat→Option Hint:=hfind []
noncomputable def F30 (x:I30.ty CC):Option (ze CC O30):=zC ⟨false⟩ [] lpO Tryz.prog Tryz.f94 1 I30 O30 H30 x
noncomputable def P30:Spec CC:=⟨94,1,I30,O30,F30⟩
theorem K30:Spec.OK Tryz.prog P30:=zl zu zo zn H30 (by kernel_rfl) (by kernel_rfl) (by kernel_rfl) fun x=>rfl
def I31:Sig:={ts:=[(0,.pc 0 0),(1,.agg [.int .i64,.str,.int .i64,.int .i64,.nils])],es:=[.cell [.sl 52,.int .i64]]}
def O31:List (XK×Sig):=[(.pan (.ifc 45 (.agg [.int .i64,.int .i64])),{ts:=[],es:=[.cell [.sl 52,.int .i64]]}),(.ret,{ts:=[(0,.agg [.int .i64,.str,.int .i64,.int .i64,.nils])],es:=[.cell [.sl 52,.int .i64]]})]
def H31:Nat→Option Hint:=hfind []
noncomputable def F31 (x:I31.ty CC):Option (ze CC O31):=zC ⟨false⟩ [P26] lpO Tryz.prog Tryz.f95 1 I31 O31 H31 x
noncomputable def P31:Spec CC:=⟨95,1,I31,O31,F31⟩
theorem K31:Spec.OK Tryz.prog P31:=zl (zd K26 zu) zo zn H31 (by kernel_rfl) (by kernel_rfl) (by kernel_rfl) fun x=>rfl
def I32:Sig:={ts:=[(0,.pc 0 0),(1,.int .i64)],es:=[.cell [.sl 52,.int .i64]]}
def O32:List (XK×Sig):=[(.pan (.ifc 45 (.agg [.int .i64,.int .i64])),{ts:=[],es:=[.cell [.sl 52,.int .i64]]}),(.ret,{ts:=[(0,.int .i64)],es:=[.cell [.sl 52,.int .i64]]})]
def H32:Nat→Option Hint:=hfind []
noncomputable def F32 (x:I32.ty CC):Option (ze CC O32):=zC ⟨false⟩ [P24] lpO Tryz.prog Tryz.f100 1 I32 O32 H32 x
noncomputable def P32:Spec CC:=⟨100,1,I32,O32,F32⟩
theorem K32:Spec.OK Tryz.prog P32:=zl (zd K24 zu) zo zn H32 (by kernel_rfl) (by kernel_rfl) (by kernel_rfl) fun x=>rfl
def I33:Sig:={ts:=[(0,.pc 0 0),(1,.int .i64)],es:=[.cell [.sl 52,.int .i64]]}
def O33:List (XK×Sig):=[(.pan (.ifc 45 (.agg [.int .i64,.int .i64])),{ts:=[],es:=[.cell [.sl 52,.int .i64]]}),(.ret,{ts:=[(0,.agg [.int .i64,.str,.int .i64,.int .i64,.nils])],es:=[.cell [.sl 52,.int .i64]]})]
def H33:Nat→Option Hint:=hfind []
noncomputable def F33 (x:I33.ty CC):Option (ze CC O33):=zC ⟨false⟩ [P25,P26,P32] lpO Tryz.prog Tryz.f96 1 I33 O33 H33 x
noncomputable def P33:Spec CC:=⟨96,1,I33,O33,F33⟩
theorem K33:Spec.OK Tryz.prog P33:=zl (zd K25 (zd K26 (zd K32 zu))) zo zn H33 (by kernel_rfl) (by kernel_rfl) (by kernel_rfl) fun x=>rfl
def I34:Sig:={ts:=[(0,.pc 0 0),(1,.agg [.int .i64,.str,.int .i64,.int .i64,.nils])],es:=[.cell [.sl 52,.int .i64]]}
def O34:List (XK×Sig):=[(.pan (.ifc 45 (.agg [.int .i64,.int .i64])),{ts:=[],es:=[.cell [.sl 52,.int .i64]]}),(.ret,{ts:=[(0,.agg [.int .i64,.str,.int .i64,.int .i64,.nils])],es:=[.cell [.sl 52,.int .i64]]})]
def H34:Nat→Option Hint:=hfind [(6,.cut [(.pan (.ifc 45 (.agg [.int .i64,.int .i64])),{ts:=[],es:=[.cell [.sl 52,.int .i64]]}),(.normal,{ts:=[(3,.pc 1 0),(4,.pc 2 0)],es:=[.cell [.sl 52,.int .i64],.cell [.int .i64,.str,.int .i64,.int .i64,.nils],.cell [.int .i64,.str,.int .i64,.int .i64,.nils]]})]),(10,.cut [(.pan (.ifc 45 (.agg [.int .i64,.int .i64])),{ts:=[],es:=[.cell [.sl 52,.int .i64]]}),(.normal,{ts:=[(3,.pc 1 0),(4,.pc 2 0)],es:=[.cell [.sl 52,.int .i64],.cell [.int .i64,.str,.int .i64,.int .i64,.nils],.cell [.int .i64,.str,.int .i64,.int .i64,.nils]]})])]
noncomputable def F34 (x:I34.ty CC):Option (ze CC O34):=zC ⟨false⟩ [P22,P32] lpO Tryz.prog Tryz.f101 1 I34 O34 H34 x
noncomputable def P34:Spec CC:=⟨101,1,I34,O34,F34⟩
theorem K34:Spec.OK Tryz.prog P34:=zl (zd K22 (zd K32 zu)) zo zn H34 (by kernel_rfl) (by kernel_rfl) (by kernel_rfl) fun x=>rfl
def I35:Sig:={ts:=[(0,.pc 0 0)],es:=[.cell [.sl 52,.int .i64]]}
def O35:List (XK×Sig):=[(.pan (.ifc 45 (.agg [.int .i64,.int .i64])),{ts:=[],es:=[.cell [.sl 52,.int .i64]]}),(.ret,{ts:=[(0,.agg [.int .i64,.str,.int .i64,.int .i64,.nils])],es:=[.cell [.sl 52,.int .i64]]})]
def H35:Nat→Option Hint:=hfind [(8,.cut [(.pan (.ifc 45 (.agg [.int .i64,.int .i64])),{ts:=[],es:=[.cell [.sl 52,.int .i64]]}),(.ret,{ts:=[(2,.pc 1 0)],es:=[.cell [.sl 52,.int .i64],.cell [.int .i64,.str,.int .i64,.int .i64,.nils]]}),(.normal,{ts:=[(0,.pc 0 0),(2,.pc 1 0)],es:=[.cell [.sl 52,.int .i64],.cell [.int .i64,.str,.int .i64,.int .i64,.nils]]})]),(20,.cut [(.pan (.ifc 45 (.agg [.int .i64,.int .i64])),{ts:=[],es:=[.cell [.sl 52,.int .i64]]}),(.normal,{ts:=[(2,.pc 1 0)],es:=[.cell [.sl 52,.int .i64],.cell [.int .i64,.str,.int .i64,.int .i64,.nils]]})])]
noncomputable def F35 (x:I35.ty CC):Option (ze CC O35):=zC ⟨false⟩ [P20,P32,P22,P25,P34] lpO Tryz.prog Tryz.f73 1 I35 O35 H35 x
noncomputable def P35:Spec CC:=⟨73,1,I35,O35,F35⟩
theorem K35:Spec.OK Tryz.prog P35:=zl (zd K20 (zd K32 (zd K22 (zd K25 (zd K34 zu))))) zo zn H35 (by kernel_rfl) (by kernel_rfl) (by kernel_rfl) fun x=>rfl
def I36:Sig:={ts:=[(0,.pc 0 0)],es:=[.cell [.sl 52,.int .i64]]}
def O36:List (XK×Sig):=[(.ret,{ts:=[(0,.str)],es:=[.cell [.sl 52,.int .i64]]}),(.pan (.ifc 45 (.agg [.int .i64,.int .i64])),{ts:=[],es:=[.cell [.sl 52,.int .i64]]})]
def H36:Nat→Option Hint:=hfind [(6,.loop {ts:=[(0,.pc 0 0),(5,.agg [.str,.str,.str]),(6,.int .i64)],es:=[.cell [.sl 52,.int .i64]]} [(.ret,{ts:=[(2,.str)],es:=[.cell [.sl 52,.int .i64]]}),(.exit 0,{ts:=[(0,.pc 0 0)],es:=[.cell [.sl 52,.int .i64]]})])]
noncomputable def F36 (x:I36.ty CC):Option (ze CC O36):=zC ⟨false⟩ [P22,P23] lpO Tryz.prog Tryz.f74 1 I36 O36 H36 x
noncomputable def P36:Spec CC:=⟨74,1,I36,O36,F36⟩
theorem K36:Spec.OK Tryz.prog P36:=zl (zd K22 (zd K23 zu)) zo zn H36 (by kernel_rfl) (by kernel_rfl) (by kernel_rfl) fun x=>rfl
def I37:Sig:={ts:=[(0,.pc 0 0)],es:=[.cell [.sl 52,.int .i64]]}
def O37:List (XK×Sig):=[(.pan (.ifc 45 (.agg [.int .i64,.int .i64])),{ts:=[],es:=[.cell [.sl 52,.int .i64]]}),(.ret,{ts:=[(0,.agg [.int .i64,.str,.int .i64,.int .i64,.row 1])],es:=[.cell [.sl 52,.int .i64],.row 25]})]
def H37:Nat→Option Hint:=hfind [(7,.draw [(0,true),(1,true),(2,true),(3,true),(4,true),(5,false),(6,false),(7,true),(8,false)] [])]
noncomputable def F37 (x:I37.ty CC):Option (ze CC O37):=zC ⟨false⟩ [P35,P36] lpO Tryz.prog Tryz.f46 1 I37 O37 H37 x
noncomputable def P37:Spec CC:=⟨46,1,I37,O37,F37⟩
theorem K37:Spec.OK Tryz.prog P37:=zl (zd K35 (zd K36 zu)) zo zn H37 (by kernel_rfl) (by kernel_rfl) (by kernel_rfl) fun x=>rfl
def I38:Sig:={ts:=[(0,.pc 0 0),(1,.val 25)],es:=[.cell [.sl 52,.int .i64]]}
def O38:List (XK×Sig):=[(.pan (.ifc 45 (.agg [.int .i64,.int .i64])),{ts:=[],es:=[.cell [.sl 52,.int .i64]]}),(.ret,{ts:=[(0,.val 25)],es:=[.cell [.sl 52,.int .i64]]})]
def H38:Nat→Option Hint:=hfind []
noncomputable def F38 (x:I38.ty CC):Option (ze CC O38):=zC ⟨false⟩ [P26] lpO Tryz.prog Tryz.f95 1 I38 O38 H38 x
noncomputable def P38:Spec CC:=⟨95,1,I38,O38,F38⟩
theorem K38:Spec.OK Tryz.prog P38:=zl (zd K26 zu) zo zn H38 (by kernel_rfl) (by kernel_rfl) (by kernel_rfl) fun x=>rfl
def I39:Sig:={ts:=[(0,.pc 0 0),(1,.clo 73 [.tup [.pc 0 0]])],es:=[.cell [.sl 52,.int .i64]]}
def O39:List (XK×Sig):=[(.pan (.ifc 45 (.agg [.int .i64,.int .i64])),{ts:=[],es:=[.cell [.sl 52,.int .i64]]}),(.ret,{ts:=[(0,.row 1)],es:=[.cell [.sl 52,.int .i64],.row 25]})]
def H39:Nat→Option Hint:=hfind [(6,.loop {ts:=[(0,.pc 0 0),(1,.clo 73 [.tup [.pc 0 0]]),(5,.row 1)],es:=[.cell [.sl 52,.int .i64],.row 25]} [(.pan (.ifc 45 (.agg [.int .i64,.int .i64])),{ts:=[],es:=[.cell [.sl 52,.int .i64]]}),(.exit 0,{ts:=[(5,.row 1)],es:=[.cell [.sl 52,.int .i64],.row 25]})])]
noncomputable def F39 (x:I39.ty CC):Option (ze CC O39):=zC ⟨false⟩ [P35,P22] lpO Tryz.prog Tryz.f39 1 I39 O39 H39 x
noncomputable def P39:Spec CC:=⟨39,1,I39,O39,F39⟩
theorem K39:Spec.OK Tryz.prog P39:=zl (zd K35 (zd K22 zu)) zo zn H39 (by kernel_rfl) (by kernel_rfl) (by kernel_rfl) fun x=>rfl
def I40:Sig:={ts:=[(0,.pc 0 0)],es:=[.cell [.sl 52,.int .i64]]}
def O40:List (XK×Sig):=[(.pan (.ifc 45 (.agg [.int .i64,.int .i64])),{ts:=[],es:=[.cell [.sl 52,.int .i64]]}),(.ret,{ts:=[(0,.row 1)],es:=[.cell [.sl 52,.int .i64],.row 25]})]
def H40:Nat→Option Hint:=hfind []
noncomputable def F40 (x:I40.ty CC):Option (ze CC O40):=zC ⟨false⟩ [P26,P22,P39] lpO Tryz.prog Tryz.f98 1 I40 O40 H40 x
noncomputable def P40:Spec CC:=⟨98,1,I40,O40,F40⟩
theorem K40:Spec.OK Tryz.prog P40:=zl (zd K26 (zd K22 (zd K39 zu))) zo zn H40 (by kernel_rfl) (by kernel_rfl) (by kernel_rfl) fun x=>rfl
def I41:Sig:={ts:=[(0,.val 25),(1,.pc 0 0)],es:=[.cell [.int .i64]]}
def O41:List (XK×Sig):=[(.ret,{ts:=[(0,.val 25)],es:=[.cell [.int .i64]]})]
def H41:Nat→Option Hint:=hfind []
noncomputable def F41 (x:I41.ty CC):Option (ze CC O41):=zC ⟨false⟩ [] lpO Tryz.prog Tryz.f94 1 I41 O41 H41 x
noncomputable def P41:Spec CC:=⟨94,1,I41,O41,F41⟩
theorem K41:Spec.OK Tryz.prog P41:=zl zu zo zn H41 (by kernel_rfl) (by kernel_rfl) (by kernel_rfl) fun x=>rfl
def I42:Sig:={ts:=[(0,.pc 0 0)],es:=[.cell [.sl 52,.int .i64]]}
def O42:List (XK×Sig):=[(.pan (.ifc 45 (.agg [.int .i64,.int .i64])),{ts:=[],es:=[.cell [.sl 52,.int .i64]]}),(.ret,{ts:=[(0,.val 25)],es:=[.cell [.sl 52,.int .i64]]})]
def H42:Nat→Option Hint:=hfind [(8,.cut [(.pan (.ifc 45 (.agg [.int .i64,.int .i64])),{ts:=[],es:=[.cell [.sl 52,.int .i64]]}),(.ret,{ts:=[(2,.pc 1 0)],es:=[.cell [.sl 52,.int .i64],.cell [.int .i64,.str,.int .i64,.int .i64,.nils]]}),(.normal,{ts:=[(0,.pc 0 0),(2,.pc 1 0),(3,.pc 2 0)],es:=[.cell [.sl 52,.int .i64],.cell [.int .i64,.str,.int .i64,.int .i64,.nils],.cell [.int .i64,.str,.int .i64,.int .i64,.nils]]})]),(16,.cut [(.pan (.ifc 45 (.agg [.int .i64,.int .i64])),{ts:=[],es:=[.cell [.sl 52,.int .i64]]}),(.ret,{ts:=[(2,.pc 1 0)],es:=[.cell [.sl 52,.int .i64],.cell [.int .i64,.str,.int .i64,.int .i64,.nils]]}),(.normal,{ts:=[(0,.pc 0 0),(2,.pc 1 0),(3,.pc 2 0)],es:=[.cell [.sl 52,.int .i64],.cell [.int .i64,.str,.int .i64,.int .i64,.nils],.cell [.int .i64,.str,.int .i64,.int .i64,.nils]]})]),(24,.cut [(.pan (.ifc 45 (.agg [.int .i64,.int .i64])),{ts:=[],es:=[.cell [.sl 52,.int .i64]]}),(.ret,{ts:=[(2,.pc 1 0)],es:=[.cell [.sl 52,.int .i64],.cell [.int .i64,.str,.int .i64,.int .i64,.nils]]}),(.normal,{ts:=[(0,.pc 0 0),(2,.pc 1 0),(3,.pc 2 0)],es:=[.cell [.sl 52,.int .i64],.cell [.int .i64,.str,.int .i64,.int .i64,.nils],.cell [.int .i64,.str,.int .i64,.int .i64,.nils]]})]),(30,.cut [(.normal,{ts:=[(0,.pc 0 0),(2,.pc 1 0),(3,.pc 2 0)],es:=[.cell [.sl 52,.int .i64],.cell [.int .i64,.str,.int .i64,.int .i64,.nils],.cell [.int .i64,.str,.int .i64,.int .i64,.nils]]})]),(51,.cut [(.pan (.ifc 45 (.agg [.int .i64,.int .i64])),{ts:=[],es:=[.cell [.sl 52,.int .i64]]}),(.ret,{ts:=[(2,.pc 1 0)],es:=[.cell [.sl 52,.int .i64],.cell [.int .i64,.str,.int .i64,.int .i64,.row 2],.row 25]}),(.normal,{ts:=[(0,.pc 0 0),(2,.pc 1 0),(3,.pc 2 0)],es:=[.cell [.sl 52,.int .i64],.cell [.int .i64,.str,.int .i64,.int .i64,.nils],.cell [.int .i64,.str,.int .i64,.int .i64,.nils]]})]),(59,.cut [(.pan (.ifc 45 (.agg [.int .i64,.int .i64])),{ts:=[],es:=[.cell [.sl 52,.int .i64]]}),(.ret,{ts:=[(2,.pc 1 0)],es:=[.cell [.sl 52,.int .i64],.cell [.int .i64,.str,.int .i64,.int .i64,.row 2],.row 25]}),(.normal,{ts:=[(0,.pc 0 0),(2,.pc 1 0),(3,.pc 2 0)],es:=[.cell [.sl 52,.int .i64],.cell [.int .i64,.str,.int .i64,.int .i64,.nils],.cell [.int .i64,.str,.int .i64,.int .i64,.nils]]})]),(69,.cut [(.pan (.ifc 45 (.agg [.int .i64,.int .i64])),{ts:=[],es:=[.cell [.sl 52,.int .i64]]}),(.ret,{ts:=[(2,.pc 1 0)],es:=[.cell [.sl 52,.int .i64],.cell [.int .i64,.str,.int .i64,.int .i64,.row 2],.row 25]}),(.normal,{ts:=[(0,.pc 0 0),(2,.pc 1 0),(3,.pc 2 0)],es:=[.cell [.sl 52,.int .i64],.cell [.int .i64,.str,.int .i64,.int .i64,.nils],.cell [.int .i64,.str,.int .i64,.int .i64,.nils]]})]),(70,.loop {ts:=[(0,.pc 0 0),(2,.pc 1 0),(3,.pc 2 0),(69,.pc 3 0)],es:=[.cell [.sl 52,.int .i64],.cell [.int .i64,.str,.int .i64,.int .i64,.nils],.cell [.int .i64,.str,.int .i64,.int .i64,.nils],.cell []]} []),(83,.cut [(.normal,{ts:=[(0,.pc 0 0),(2,.pc 1 0),(3,.pc 2 0),(4,.str),(5,.int .i64),(69,.pc 3 0),(87,.bool)],es:=[.cell [.sl 52,.int .i64],.cell [.int .i64,.str,.int .i64,.int .i64,.nils],.cell [.int .i64,.str,.int .i64,.int .i64,.nils],.cell []]})]),(84,.cut [(.pan (.ifc 45 (.agg [.int .i64,.int .i64])),{ts:=[],es:=[.cell [.sl 52,.int .i64],.cell [.int .i64,.str,.int .i64,.int .i64,.nils],.cell [.int .i64,.str,.int .i64,.int .i64,.nils],.cell []]}),(.ret,{ts:=[(2,.pc 1 0)],es:=[.cell [.sl 52,.int .i64],.cell [.int .i64,.str,.int .i64,.int .i64,.row 4],.cell [.int .i64,.str,.int .i64,.int .i64,.nils],.cell [],.row 25]}),(.normal,{ts:=[(0,.pc 0 0),(2,.pc 1 0),(3,.pc 2 0),(69,.pc 3 0)],es:=[.cell [.sl 52,.int .i64],.cell [.int .i64,.str,.int .i64,.int .i64,.nils],.cell [.int .i64,.str,.int .i64,.int .i64,.nils],.cell []]})]),(88,.draw [(0,true),(1,true),(2,true),(3,true),(4,true),(5,false),(6,false),(7,true),(8,false)] [])]
noncomputable def F42 (x:I42.ty CC):Option (ze CC O42):=zis ⟨false⟩ [P20,P22,P32,P25,P35,P21,P40,P26,P34] lpO Tryz.prog Tryz.f117 1 I42 O42 H42 x
noncomputable def P42:Spec CC:=⟨117,1,I42,O42,F42⟩
theorem K42:Spec.OK Tryz.prog P42:=zna (zd K20 (zd K22 (zd K32 (zd K25 (zd K35 (zd K21 (zd K40 (zd K26 (zd K34 zu))))))))) zo zn H42 (by kernel_rfl) (by kernel_rfl) (by kernel_rfl) fun x=>rfl
def I43:Sig:={ts:=[(0,.pc 0 0),(1,.agg [.int .i64,.str,.int .i64,.int .i64,.nils])],es:=[.cell [.sl 52,.int .i64]]}
def O43:List (XK×Sig):=[(.pan (.ifc 45 (.agg [.int .i64,.int .i64])),{ts:=[],es:=[.cell [.sl 52,.int .i64]]}),(.ret,{ts:=[(0,.agg [.int .i64,.str,.int .i64,.int .i64,.row 1])],es:=[.cell [.sl 52,.int .i64],.row 25]})]
def H43:Nat→Option Hint:=hfind [(6,.cut [(.pan (.ifc 45 (.agg [.int .i64,.int .i64])),{ts:=[],es:=[.cell [.sl 52,.int .i64]]}),(.ret,{ts:=[(4,.pc 1 0)],es:=[.cell [.sl 52,.int .i64],.cell [.int .i64,.str,.int .i64,.int .i64,.row 2],.row 25]}),(.normal,{ts:=[(0,.pc 0 0),(3,.pc 1 0),(4,.pc 2 0)],es:=[.cell [.sl 52,.int .i64],.cell [.int .i64,.str,.int .i64,.int .i64,.nils],.cell [.int .i64,.str,.int .i64,.int .i64,.nils]]})]),(16,.cut [(.pan (.ifc 45 (.agg [.int .i64,.int .i64])),{ts:=[],es:=[.cell [.sl 52,.int .i64]]}),(.ret,{ts:=[(4,.pc 1 0)],es:=[.cell [.sl 52,.int .i64],.cell [.int .i64,.str,.int .i64,.int .i64,.row 2],.row 25]}),(.normal,{ts:=[(0,.pc 0 0),(3,.pc 1 0),(4,.pc 2 0)],es:=[.cell [.sl 52,.int .i64],.cell [.int .i64,.str,.int .i64,.int .i64,.nils],.cell [.int .i64,.str,.int .i64,.int .i64,.nils]]})]),(24,.draw [(0,true),(1,true),(2,true),(3,false),(4,false),(5,false),(6,true),(7,false)] [])]
noncomputable def F43 (x:I43.ty CC):Option (ze CC O43):=zC ⟨false⟩ [P21,P40,P22,P35,P26,P42] lpO Tryz.prog Tryz.f99 1 I43 O43 H43 x
noncomputable def P43:Spec CC:=⟨99,1,I43,O43,F43⟩
theorem K43:Spec.OK Tryz.prog P43:=zl (zd K21 (zd K40 (zd K22 (zd K35 (zd K26 (zd K42 zu)))))) zo zn H43 (by kernel_rfl) (by kernel_rfl) (by kernel_rfl) fun x=>rfl
def I44:Sig:={ts:=[(0,.pc 0 0),(1,.int .i64),(2,.int .i64)],es:=[.cell [.sl 52,.int .i64]]}
def O44:List (XK×Sig):=[(.pan (.ifc 45 (.agg [.int .i64,.int .i64])),{ts:=[],es:=[.cell [.sl 52,.int .i64]]}),(.ret,{ts:=[(0,.agg [.int .i64,.str,.int .i64,.int .i64,.row 1])],es:=[.cell [.sl 52,.int .i64],.row 25]})]
def H44:Nat→Option Hint:=hfind [(7,.draw [(0,true),(1,true),(2,true),(3,false),(4,false),(5,false),(6,true),(7,false)] [])]
def I45:Sig:={ts:=[(0,.pc 0 0)],es:=[.cell [.sl 52,.int .i64]]}
def O45:List (XK×Sig):=[(.pan (.ifc 45 (.agg [.int .i64,.int .i64])),{ts:=[],es:=[.cell [.sl 52,.int .i64]]}),(.ret,{ts:=[(0,.val 25)],es:=[.cell [.sl 52,.int .i64]]})]
def H45:Nat→Option Hint:=hfind [(10,.cut [(.pan (.ifc 45 (.agg [.int .i64,.int .i64])),{ts:=[],es:=[.cell [.sl 52,.int .i64]]}),(.ret,{ts:=[(2,.pc 1 0)],es:=[.cell [.sl 52,.int .i64],.cell [.int .i64,.str,.int .i64,.int .i64,.sl 25]]}),(.normal,{ts:=[(0,.pc 0 0),(2,.pc 1 0)],es:=[.cell [.sl 52,.int .i64],.cell [.int .i64,.str,.int .i64,.int .i64,.nils]]})]),(20,.cut [(.pan (.ifc 45 (.agg [.int .i64,.int .i64])),{ts:=[],es:=[.cell [.sl 52,.int .i64]]}),(.ret,{ts:=[(2,.pc 1 0)],es:=[.cell [.sl 52,.int .i64],.cell [.int .i64,.str,.int .i64,.int .i64,.sl 25]]}),(.normal,{ts:=[(0,.pc 0 0),(2,.pc 1 0)],es:=[.cell [.sl 52,.int .i64],.cell [.int .i64,.str,.int .i64,.int .i64,.nils]]})]),(22,.cut [(.pan (.ifc 45 (.agg [.int .i64,.int .i64])),{ts:=[],es:=[.cell [.sl 52,.int .i64]]}),(.normal,{ts:=[(2,.pc 1 0)],es:=[.cell [.sl 52,.int .i64],.cell [.int .i64,.str,.int .i64,.int .i64,.nils]]})]),(26,.cut [(.pan (.ifc 45 (.agg [.int .i64,.int .i64])),{ts:=[],es:=[.cell [.sl 52,.int .i64]]}),(.ret,{ts:=[(2,.pc 1 0)],es:=[.cell [.sl 52,.int .i64],.cell [.int .i64,.str,.int .i64,.int .i64,.sl 25]]}),(.normal,{ts:=[(0,.pc 0 0),(2,.pc 1 0)],es:=[.cell [.sl 52,.int .i64],.cell [.int .i64,.str,.int .i64,.int .i64,.nils]]})]),(28,.cut [(.pan (.ifc 45 (.agg [.int .i64,.int .i64])),{ts:=[],es:=[.cell [.sl 52,.int .i64]]}),(.normal,{ts:=[(2,.pc 1 0)],es:=[.cell [.sl 52,.int .i64],.cell [.int .i64,.str,.int .i64,.int .i64,.nils]]})]),(32,.cut [(.pan (.ifc 45 (.agg [.int .i64,.int .i64])),{ts:=[],es:=[.cell [.sl 52,.int .i64]]}),(.ret,{ts:=[(2,.pc 1 0)],es:=[.cell [.sl 52,.int .i64],.cell [.int .i64,.str,.int .i64,.int .i64,.sl 25]]}),(.normal,{ts:=[(0,.pc 0 0),(2,.pc 1 0)],es:=[.cell [.sl 52,.int .i64],.cell [.int .i64,.str,.int .i64,.int .i64,.nils]]})]),(38,.cut [(.pan (.ifc 45 (.agg [.int .i64,.int .i64])),{ts:=[],es:=[.cell [.sl 52,.int .i64]]}),(.normal,{ts:=[(2,.pc 1 0),(6,.pc 2 0)],es:=[.cell [.sl 52,.int .i64],.cell [.int .i64,.str,.int .i64,.int .i64,.nils],.cell [.int .i64,.str,.int .i64,.int .i64,.row 3],.row 25]})]),(39,.draw [(0,true),(1,true),(2,true),(3,false),(4,false),(5,false),(6,true),(7,false)] []),(46,.cut [(.pan (.ifc 45 (.agg [.int .i64,.int .i64])),{ts:=[],es:=[.cell [.sl 52,.int .i64]]}),(.ret,{ts:=[(2,.pc 1 0)],es:=[.cell [.sl 52,.int .i64],.cell [.int .i64,.str,.int .i64,.int .i64,.sl 25]]}),(.normal,{ts:=[(0,.pc 0 0),(2,.pc 1 0)],es:=[.cell [.sl 52,.int .i64],.cell [.int .i64,.str,.int .i64,.int .i64,.nils]]})]),(52,.cut [(.pan (.ifc 45 (.agg [.int .i64,.int .i64])),{ts:=[],es:=[.cell [.sl 52,.int .i64]]}),(.ret,{ts:=[(2,.pc 1 0)],es:=[.cell [.sl 52,.int .i64],.cell [.int .i64,.str,.int .i64,.int .i64,.sl 25]]}),(.normal,{ts:=[(0,.pc 0 0),(2,.pc 1 0)],es:=[.cell [.sl 52,.int .i64],.cell [.int .i64,.str,.int .i64,.int .i64,.nils]]})]),(58,.cut [(.pan (.ifc 45 (.agg [.int .i64,.int .i64])),{ts:=[],es:=[.cell [.sl 52,.int .i64]]}),(.normal,{ts:=[(0,.pc 0 0),(2,.pc 1 0),(7,.pc 2 0)],es:=[.cell [.sl 52,.int .i64],.cell [.int .i64,.str,.int .i64,.int .i64,.nils],.cell [.int .i64,.str,.int .i64,.int .i64,.row 3],.row 25]})]),(66,.cut [(.pan (.ifc 45 (.agg [.int .i64,.int .i64])),{ts:=[],es:=[.cell [.sl 52,.int .i64]]}),(.ret,{ts:=[(2,.pc 1 0)],es:=[.cell [.sl 52,.int .i64],.cell [.int .i64,.str,.int .i64,.int .i64,.sl 25]]}),(.normal,{ts:=[(0,.pc 0 0),(2,.pc 1 0)],es:=[.cell [.sl 52,.int .i64],.cell [.int .i64,.str,.int .i64,.int .i64,.nils]]})]),(72,.cut [(.pan (.ifc 45 (.agg [.int .i64,.int .i64])),{ts:=[],es:=[.cell [.sl 52,.int .i64]]}),(.ret,{ts:=[(2,.pc 1 0)],es:=[.cell [.sl 52,.int .i64],.cell [.int .i64,.str,.int .i64,.int .i64,.sl 25]]}),(.normal,{ts:=[(0,.pc 0 0),(2,.pc 1 0)],es:=[.cell [.sl 52,.int .i64],.cell [.int .i64,.str,.int .i64,.int .i64,.nils]]})]),(82,.cut [(.pan (.ifc 45 (.agg [.int .i64,.int .i64])),{ts:=[],es:=[.cell [.sl 52,.int .i64]]}),(.normal,{ts:=[(2,.pc 1 0)],es:=[.cell [.sl 52,.int .i64],.cell [.int .i64,.str,.int .i64,.int .i64,.sl 25]]})])]
def I46:Sig:={ts:=[(0,.pc 0 0)],es:=[.cell [.sl 52,.int .i64]]}
def O46:List (XK×Sig):=[(.pan (.ifc 45 (.agg [.int .i64,.int .i64])),{ts:=[],es:=[.cell [.sl 52,.int .i64]]}),(.ret,{ts:=[(0,.agg [.int .i64,.str,.int .i64,.int .i64,.row 1])],es:=[.cell [.sl 52,.int .i64],.row 25]})]
def H46:Nat→Option Hint:=hfind [(6,.cut [(.normal,{ts:=[(0,.pc 0 0),(2,.pc 1 0),(3,.pc 2 0),(16,.bool)],es:=[.cell [.sl 52,.int .i64],.cell [.int .i64,.str,.int .i64,.int .i64,.nils],.cell [.int .i64,.str,.int .i64,.int .i64,.nils]]})]),(16,.loop {ts:=[(0,.pc 0 0),(2,.pc 1 0),(3,.pc 2 0)],es:=[.cell [.sl 52,.int .i64],.cell [.int .i64,.str,.int .i64,.int .i64,.nils],.cell [.int .i64,.str,.int .i64,.int .i64,.row 3],.row 25]} [(.pan (.ifc 45 (.agg [.int .i64,.int .i64])),{ts:=[],es:=[.cell [.sl 52,.int .i64]]}),(.exit 0,{ts:=[(0,.pc 0 0),(2,.pc 1 0),(3,.pc 2 0)],es:=[.cell [.sl 52,.int .i64],.cell [.int .i64,.str,.int .i64,.int .i64,.nils],.cell [.int .i64,.str,.int .i64,.int .i64,.row 3],.row 25]})]),(24,.draw [(0,true),(1,true),(2,true),(3,false),(4,false),(5,false),(6,true),(7,false)] [])]
noncomputable def zdA (h:I46.ty CC→Option (ze CC O46)):Spec CC:=⟨43,1,I46,O46,h⟩
noncomputable def ziw (h:I46.ty CC→Option (ze CC O46)) (x:I44.ty CC):Option (ze CC O44):=zC ⟨false⟩ [P37,zdA h] lpO Tryz.prog Tryz.f97 1 I44 O44 H44 x
noncomputable def zol (h:I46.ty CC→Option (ze CC O46)):Spec CC:=⟨97,1,I44,O44,ziw h⟩
theorem zp4 {h:I46.ty CC→Option (ze CC O46)}(hh:Spec.OK Tryz.prog (zdA h)):Spec.OK Tryz.prog (zol h):=zl (zd K37 (zd hh zu)) zo zn H44 (by kernel_rfl) (by kernel_rfl) (by kernel_rfl) fun x=>rfl
noncomputable def zix (h:I46.ty CC→Option (ze CC O46)) (x:I45.ty CC):Option (ze CC O45):=zC ⟨false⟩ [P20,P22,P25,P30,P31,P33,zol h,zdA h,P21,P35,P38,P40,P41,P43] lpO Tryz.prog Tryz.f72 1 I45 O45 H45 x
noncomputable def zom (h:I46.ty CC→Option (ze CC O46)):Spec CC:=⟨72,1,I45,O45,zix h⟩
theorem zp5 {h:I46.ty CC→Option (ze CC O46)}(hh:Spec.OK Tryz.prog (zdA h)):Spec.OK Tryz.prog (zom h):=zl (zd K20 (zd K22 (zd K25 (zd K30 (zd K31 (zd K33 (zd (zp4 hh) (zd hh (zd K21 (zd K35 (zd K38 (zd K40 (zd K41 (zd K43 zu)))))))))))))) zo zn H45 (by kernel_rfl) (by kernel_rfl) (by kernel_rfl) fun x=>rfl
noncomputable def ziy (h:I46.ty CC→Option (ze CC O46)) (x:I46.ty CC):Option (ze CC O46):=zC ⟨false⟩ [P20,P21,P23,P26,P22,zom h] lpO Tryz.prog Tryz.f43 1 I46 O46 H46 x
noncomputable def zp6 (h:I46.ty CC→Option (ze CC O46)):Spec CC:=⟨43,1,I46,O46,ziy h⟩
theorem zp7 {h:I46.ty CC→Option (ze CC O46)}(hh:Spec.OK Tryz.prog (zdA h)):Spec.OK Tryz.prog (zp6 h):=zl (zd K20 (zd K21 (zd K23 (zd K26 (zd K22 (zd (zp5 hh) zu)))))) zo zn H46 (by kernel_rfl) (by kernel_rfl) (by kernel_rfl) fun x=>rfl
noncomputable def zfx:Nat→I46.ty CC→Option (ze CC O46)
  |0=>fun _=>none
  |k+1=>ziy (zfx k)
theorem zon:∀ k,Spec.OK Tryz.prog (zdA (zfx k))
  |0=>⟨Tryz.f43,by kernel_rfl,by kernel_rfl,by kernel_rfl,fun x r h=>by cases h⟩
  |k+1=>zp7 (zon k)
noncomputable def F46 (x:I46.ty CC):Option (ze CC O46):=zfx 100000 x
noncomputable def P46:Spec CC:=⟨43,1,I46,O46,F46⟩
theorem K46:Spec.OK Tryz.prog P46:=zon 100000
def I47:Sig:={ts:=[(0,.pc 0 0),(1,.int .i64)],es:=[.cell [.sl 52,.int .i64]]}
def O47:List (XK×Sig):=[(.pan (.ifc 45 (.agg [.int .i64,.int .i64])),{ts:=[],es:=[.cell [.sl 52,.int .i64]]}),(.ret,{ts:=[(0,.agg [.int .i64,.str,.int .i64,.int .i64,.row 1])],es:=[.cell [.sl 52,.int .i64],.row 25]})]
def H47:Nat→Option Hint:=hfind [(11,.cut [(.pan (.ifc 45 (.agg [.int .i64,.int .i64])),{ts:=[],es:=[.cell [.sl 52,.int .i64]]}),(.normal,{ts:=[(0,.pc 0 0),(4,.pc 1 0),(5,.pc 2 0)],es:=[.cell [.sl 52,.int .i64],.cell [.int .i64,.str,.int .i64,.int .i64,.nils],.cell [.int .i64,.str,.int .i64,.int .i64,.row 3],.row 25]})]),(21,.cut [(.pan (.ifc 45 (.agg [.int .i64,.int .i64])),{ts:=[],es:=[.cell [.sl 52,.int .i64]]}),(.normal,{ts:=[(0,.pc 0 0),(4,.pc 1 0),(5,.pc 2 0),(6,.pc 3 0)],es:=[.cell [.sl 52,.int .i64],.cell [.int .i64,.str,.int .i64,.int .i64,.nils],.cell [.int .i64,.str,.int .i64,.int .i64,.row 4],.cell [.int .i64,.str,.int .i64,.int .i64,.sl 25],.row 25]})]),(31,.draw [(0,true),(1,true),(2,true),(3,true),(4,false),(5,false),(6,false),(7,true),(8,false)] [])]
noncomputable def F47 (x:I47.ty CC):Option (ze CC O47):=zC ⟨false⟩ [P25,P26,P21,P29,P22,P23,P27,P20,P46] lpO Tryz.prog Tryz.f21 1 I47 O47 H47 x
noncomputable def P47:Spec CC:=⟨21,1,I47,O47,F47⟩
theorem K47:Spec.OK Tryz.prog P47:=zl (zd K25 (zd K26 (zd K21 (zd K29 (zd K22 (zd K23 (zd K27 (zd K20 (zd K46 zu))))))))) zo zn H47 (by kernel_rfl) (by kernel_rfl) (by kernel_rfl) fun x=>rfl
def I48:Sig:={ts:=[(0,.pc 0 0)],es:=[.cell [.sl 52,.int .i64]]}
def O48:List (XK×Sig):=[(.ret,{ts:=[(0,.agg [.int .i64,.str,.int .i64,.int .i64,.row 1])],es:=[.cell [.sl 52,.int .i64],.row 25]}),(.pan (.ifc 45 (.agg [.int .i64,.int .i64])),{ts:=[],es:=[.cell [.sl 52,.int .i64]]})]
def H48:Nat→Option Hint:=hfind [(9,.cut [(.normal,{ts:=[(0,.pc 0 0),(2,.pc 1 0),(3,.pc 2 0),(13,.bool)],es:=[.cell [.sl 52,.int .i64],.cell [.int .i64,.str,.int .i64,.int .i64,.nils],.cell [.int .i64,.str,.int .i64,.int .i64,.nils]]})]),(12,.cut [(.normal,{ts:=[(2,.pc 1 0),(3,.pc 2 0)],es:=[.cell [.sl 52,.int .i64],.cell [.int .i64,.str,.int .i64,.int .i64,.nils],.cell [.int .i64,.str,.int .i64,.int .i64,.row 3],.row 25]}),(.pan (.ifc 45 (.agg [.int .i64,.int .i64])),{ts:=[],es:=[.cell [.sl 52,.int .i64]]})]),(17,.cut [(.normal,{ts:=[(0,.pc 0 0),(2,.pc 1 0),(3,.pc 2 0),(18,.bool)],es:=[.cell [.sl 52,.int .i64],.cell [.int .i64,.str,.int .i64,.int .i64,.nils],.cell [.int .i64,.str,.int .i64,.int .i64,.nils]]})]),(21,.cut [(.normal,{ts:=[(0,.pc 0 0),(2,.pc 1 0),(3,.pc 2 0),(18,.bool)],es:=[.cell [.sl 52,.int .i64],.cell [.int .i64,.str,.int .i64,.int .i64,.nils],.cell [.int .i64,.str,.int .i64,.int .i64,.nils]]})]),(24,.cut [(.pan (.ifc 45 (.agg [.int .i64,.int .i64])),{ts:=[],es:=[.cell [.sl 52,.int .i64]]}),(.normal,{ts:=[(2,.pc 1 0),(3,.pc 2 0)],es:=[.cell [.sl 52,.int .i64],.cell [.int .i64,.str,.int .i64,.int .i64,.nils],.cell [.int .i64,.str,.int .i64,.int .i64,.row 3],.row 25]})])]
noncomputable def F48 (x:I48.ty CC):Option (ze CC O48):=zC ⟨false⟩ [P20,P22,P25,P23] lpO Tryz.prog Tryz.f44 1 I48 O48 H48 x
noncomputable def P48:Spec CC:=⟨44,1,I48,O48,F48⟩
theorem K48:Spec.OK Tryz.prog P48:=zl (zd K20 (zd K22 (zd K25 (zd K23 zu)))) zo zn H48 (by kernel_rfl) (by kernel_rfl) (by kernel_rfl) fun x=>rfl
def I49:Sig:={ts:=[(0,.pc 0 0)],es:=[.cell [.sl 52,.int .i64]]}
def O49:List (XK×Sig):=[(.pan (.ifc 45 (.agg [.int .i64,.int .i64])),{ts:=[],es:=[.cell [.sl 52,.int .i64]]}),(.ret,{ts:=[(0,.agg [.int .i64,.str,.int .i64,.int .i64,.row 1])],es:=[.cell [.sl 52,.int .i64],.row 25]})]
def H49:Nat→Option Hint:=hfind [(9,.cut [(.pan (.ifc 45 (.agg [.int .i64,.int .i64])),{ts:=[],es:=[.cell [.sl 52,.int .i64]]}),(.normal,{ts:=[(2,.pc 1 0),(3,.pc 2 0)],es:=[.cell [.sl 52,.int .i64],.cell [.int .i64,.str,.int .i64,.int .i64,.nils],.cell [.int .i64,.str,.int .i64,.int .i64,.row 3],.row 25]})])]
noncomputable def F49 (x:I49.ty CC):Option (ze CC O49):=zC ⟨false⟩ [P25,P22,P26] lpO Tryz.prog Tryz.f45 1 I49 O49 H49 x
noncomputable def P49:Spec CC:=⟨45,1,I49,O49,F49⟩
theorem K49:Spec.OK Tryz.prog P49:=zl (zd K25 (zd K22 (zd K26 zu))) zo zn H49 (by kernel_rfl) (by kernel_rfl) (by kernel_rfl) fun x=>rfl
def I50:Sig:={ts:=[(0,.pc 0 0),(1,.clo 45 [.tup [.pc 0 0]])],es:=[.cell [.sl 52,.int .i64]]}
def O50:List (XK×Sig):=[(.pan (.ifc 45 (.agg [.int .i64,.int .i64])),{ts:=[],es:=[.cell [.sl 52,.int .i64]]}),(.ret,{ts:=[(0,.row 1)],es:=[.cell [.sl 52,.int .i64],.row 25]})]
def H50:Nat→Option Hint:=hfind [(6,.loop {ts:=[(0,.pc 0 0),(1,.clo 45 [.tup [.pc 0 0]]),(5,.row 1)],es:=[.cell [.sl 52,.int .i64],.row 25]} [(.pan (.ifc 45 (.agg [.int .i64,.int .i64])),{ts:=[],es:=[.cell [.sl 52,.int .i64]]}),(.exit 0,{ts:=[(5,.row 1)],es:=[.cell [.sl 52,.int .i64],.row 25]})])]
noncomputable def F50 (x:I50.ty CC):Option (ze CC O50):=zC ⟨false⟩ [P49,P22] lpO Tryz.prog Tryz.f39 1 I50 O50 H50 x
noncomputable def P50:Spec CC:=⟨39,1,I50,O50,F50⟩
theorem K50:Spec.OK Tryz.prog P50:=zl (zd K49 (zd K22 zu)) zo zn H50 (by kernel_rfl) (by kernel_rfl) (by kernel_rfl) fun x=>rfl
def I51:Sig:={ts:=[(0,.pc 0 0),(1,.clo 46 [.tup [.pc 0 0]])],es:=[.cell [.sl 52,.int .i64]]}
def O51:List (XK×Sig):=[(.pan (.ifc 45 (.agg [.int .i64,.int .i64])),{ts:=[],es:=[.cell [.sl 52,.int .i64]]}),(.ret,{ts:=[(0,.row 1)],es:=[.cell [.sl 52,.int .i64],.row 25]})]
def H51:Nat→Option Hint:=hfind [(6,.loop {ts:=[(0,.pc 0 0),(1,.clo 46 [.tup [.pc 0 0]]),(5,.row 1)],es:=[.cell [.sl 52,.int .i64],.row 25]} [(.pan (.ifc 45 (.agg [.int .i64,.int .i64])),{ts:=[],es:=[.cell [.sl 52,.int .i64]]}),(.exit 0,{ts:=[(5,.row 1)],es:=[.cell [.sl 52,.int .i64],.row 25]})])]
noncomputable def F51 (x:I51.ty CC):Option (ze CC O51):=zC ⟨false⟩ [P37,P22] lpO Tryz.prog Tryz.f39 1 I51 O51 H51 x
noncomputable def P51:Spec CC:=⟨39,1,I51,O51,F51⟩
theorem K51:Spec.OK Tryz.prog P51:=zl (zd K37 (zd K22 zu)) zo zn H51 (by kernel_rfl) (by kernel_rfl) (by kernel_rfl) fun x=>rfl
def I52:Sig:={ts:=[(0,.pc 0 0),(1,.int .i64)],es:=[.cell [.sl 52,.int .i64]]}
def O52:List (XK×Sig):=[(.pan (.ifc 45 (.agg [.int .i64,.int .i64])),{ts:=[],es:=[.cell [.sl 52,.int .i64]]}),(.ret,{ts:=[(0,.agg [.int .i64,.str,.int .i64,.int .i64,.row 1])],es:=[.cell [.sl 52,.int .i64],.row 25]})]
def H52:Nat→Option Hint:=hfind [(9,.cut [(.pan (.ifc 45 (.agg [.int .i64,.int .i64])),{ts:=[],es:=[.cell [.sl 52,.int .i64]]}),(.normal,{ts:=[(0,.pc 0 0),(4,.pc 1 0),(5,.pc 2 0)],es:=[.cell [.sl 52,.int .i64],.cell [.int .i64,.str,.int .i64,.int .i64,.nils],.cell [.int .i64,.str,.int .i64,.int .i64,.row 3],.row 25]})]),(11,.draw [(0,true),(1,true),(2,true),(3,true),(4,true),(5,false),(6,false),(7,true),(8,false)] []),(17,.cut [(.pan (.ifc 45 (.agg [.int .i64,.int .i64])),{ts:=[],es:=[.cell [.sl 52,.int .i64]]}),(.normal,{ts:=[(0,.pc 0 0),(4,.pc 1 0),(5,.pc 2 0)],es:=[.cell [.sl 52,.int .i64],.cell [.int .i64,.str,.int .i64,.int .i64,.nils],.cell [.int .i64,.str,.int .i64,.int .i64,.row 3],.row 25]})]),(18,.draw [(0,true),(1,true),(2,true),(3,true),(4,true),(5,false),(6,false),(7,true),(8,false)] [])]
noncomputable def F52 (x:I52.ty CC):Option (ze CC O52):=zC ⟨false⟩ [P25,P48,P22,P50,P26,P51] lpO Tryz.prog Tryz.f23 1 I52 O52 H52 x
noncomputable def P52:Spec CC:=⟨23,1,I52,O52,F52⟩
theorem K52:Spec.OK Tryz.prog P52:=zl (zd K25 (zd K48 (zd K22 (zd K50 (zd K26 (zd K51 zu)))))) zo zn H52 (by kernel_rfl) (by kernel_rfl) (by kernel_rfl) fun x=>rfl
def I53:Sig:={ts:=[(0,.val 25)],es:=[]}
def O53:List (XK×Sig):=[(.ret,{ts:=[(0,.int .i64)],es:=[]})]
def H53:Nat→Option Hint:=hfind [(8,.loop {ts:=[(3,.int .i64),(7,.sl 25),(8,.int .i64),(9,.int .i64)],es:=[]} [(.exit 0,{ts:=[(3,.int .i64)],es:=[]})])]
noncomputable def zln (h:I53.ty CC→Option (ze CC O53)):Spec CC:=⟨24,1,I53,O53,h⟩
noncomputable def ziz (h:I53.ty CC→Option (ze CC O53)) (x:I53.ty CC):Option (ze CC O53):=zC ⟨false⟩ [zln h] lpO Tryz.prog Tryz.f24 1 I53 O53 H53 x
noncomputable def zp8 (h:I53.ty CC→Option (ze CC O53)):Spec CC:=⟨24,1,I53,O53,ziz h⟩
theorem zp9 {h:I53.ty CC→Option (ze CC O53)}(hh:Spec.OK Tryz.prog (zln h)):Spec.OK Tryz.prog (zp8 h):=zl (zd hh zu) zo zn H53 (by kernel_rfl) (by kernel_rfl) (by kernel_rfl) fun x=>rfl
noncomputable def zfy:Nat→I53.ty CC→Option (ze CC O53)
  |0=>fun _=>none
  |k+1=>ziz (zfy k)
theorem zoo:∀ k,Spec.OK Tryz.prog (zln (zfy k))
  |0=>⟨Tryz.f24,by kernel_rfl,by kernel_rfl,by kernel_rfl,fun x r h=>by cases h⟩
  |k+1=>zp9 (zoo k)
noncomputable def F53 (x:I53.ty CC):Option (ze CC O53):=zfy 100000 x
noncomputable def P53:Spec CC:=⟨24,1,I53,O53,F53⟩
theorem K53:Spec.OK Tryz.prog P53:=zoo 100000
def I54:Sig:={ts:=[(0,.pc 0 0),(1,.pc 1 0),(2,.pc 2 0),(3,.ifc 45 (.agg [.int .i64,.int .i64]))],es:=[.cell [.int .i64,.str,.int .i64,.int .i64,.row 3],.cell [.int .i64],.cell [.int .i64],.row 25]}
def O54:List (XK×Sig):=[(.ret,{ts:=[],es:=[.cell [.int .i64,.str,.int .i64,.int .i64,.nils],.cell [.int .i64],.cell [.int .i64],.row 25]})]
def H54:Nat→Option Hint:=hfind [(5,.draw [(0,true),(1,true),(2,true),(3,true),(4,true),(5,false),(6,false),(7,false)] [])]
noncomputable def F54 (x:I54.ty CC):Option (ze CC O54):=zfq ⟨false⟩ [] lpO Tryz.prog Tryz.f18 0 I54 O54 H54 x
noncomputable def P54:Spec CC:=⟨18,0,I54,O54,F54⟩
theorem K54:Spec.OKD Tryz.prog P54:=zg6 zu zo zn H54 (by kernel_rfl) (by kernel_rfl) (by kernel_rfl) fun x=>rfl
def I55:Sig:={ts:=[(0,.pc 0 0),(1,.pc 1 0),(2,.pc 2 0),(3,.nili)],es:=[.cell [.int .i64,.str,.int .i64,.int .i64,.row 3],.cell [.int .i64],.cell [.int .i64],.row 25]}
def O55:List (XK×Sig):=[(.ret,{ts:=[],es:=[.cell [.int .i64,.str,.int .i64,.int .i64,.row 3],.cell [.int .i64],.cell [.int .i64],.row 25]})]
def H55:Nat→Option Hint:=hfind []
noncomputable def F55 (x:I55.ty CC):Option (ze CC O55):=zfq ⟨false⟩ [] lpO Tryz.prog Tryz.f18 0 I55 O55 H55 x
noncomputable def P55:Spec CC:=⟨18,0,I55,O55,F55⟩
theorem K55:Spec.OKD Tryz.prog P55:=zg6 zu zo zn H55 (by kernel_rfl) (by kernel_rfl) (by kernel_rfl) fun x=>rfl
def I56:Sig:={ts:=[(0,.str)],es:=[]}
def O56:List (XK×Sig):=[(.ret,{ts:=[(0,.val 25),(1,.int .i64),(2,.int .i64)],es:=[]})]
def H56:Nat→Option Hint:=hfind [(9,.draw [(0,true),(1,true),(2,true),(3,false),(4,false),(5,false)] []),(13,.loop {ts:=[(2,.pc 0 0),(3,.pc 1 0),(4,.pc 2 0),(5,.sl 52),(19,.clo 18 [.pc 0 0,.pc 1 0,.pc 2 0])],es:=[.cell [.int .i64,.str,.int .i64,.int .i64,.nils],.cell [.int .i64],.cell [.int .i64]]} []),(18,.loop {ts:=[(2,.pc 0 0),(3,.pc 1 0),(4,.pc 2 0),(6,.pc 3 0)],es:=[.cell [.int .i64,.str,.int .i64,.int .i64,.row 4],.cell [.int .i64],.cell [.int .i64],.cell [.sl 52,.int .i64],.row 25]} [(.pan (.ifc 45 (.agg [.int .i64,.int .i64])),{ts:=[(2,.pc 0 0),(3,.pc 1 0),(4,.pc 2 0)],es:=[.cell [.int .i64,.str,.int .i64,.int .i64,.row 3],.cell [.int .i64],.cell [.int .i64],.row 25]}),(.exit 0,{ts:=[(2,.pc 0 0),(3,.pc 1 0),(4,.pc 2 0)],es:=[.cell [.int .i64,.str,.int .i64,.int .i64,.row 3],.cell [.int .i64],.cell [.int .i64],.row 25]})]),(25,.cut [(.pan (.ifc 45 (.agg [.int .i64,.int .i64])),{ts:=[(2,.pc 0 0),(3,.pc 1 0),(4,.pc 2 0)],es:=[.cell [.int .i64,.str,.int .i64,.int .i64,.row 3],.cell [.int .i64],.cell [.int .i64],.row 25]}),(.normal,{ts:=[(2,.pc 0 0),(3,.pc 1 0),(4,.pc 2 0),(6,.pc 3 0)],es:=[.cell [.int .i64,.str,.int .i64,.int .i64,.row 4],.cell [.int .i64],.cell [.int .i64],.cell [.sl 52,.int .i64],.row 25]})]),(33,.draw [(0,true),(1,true),(2,true),(3,true),(5,true),(6,true),(4,false),(7,false),(8,true),(10,true),(4683,false),(11,false),(9,false)] [(.pan (.ifc 45 (.agg [.int .i64,.int .i64])),{ts:=[(2,.pc 0 0),(3,.pc 1 0),(4,.pc 2 0)],es:=[.cell [.int .i64,.str,.int .i64,.int .i64,.row 3],.cell [.int .i64],.cell [.int .i64],.row 25]}),(.normal,{ts:=[(2,.pc 0 0),(3,.pc 1 0),(4,.pc 2 0),(6,.pc 3 0)],es:=[.cell [.int .i64,.str,.int .i64,.int .i64,.row 4],.cell [.int .i64],.cell [.int .i64],.cell [.sl 52,.int .i64],.row 25]})]),(38,.draw [(0,true),(1,true),(2,true),(3,true),(5,true),(6,true),(4,false),(7,false),(8,true),(10,true),(4683,false),(11,false),(9,false)] [(.pan (.ifc 45 (.agg [.int .i64,.int .i64])),{ts:=[(2,.pc 0 0),(3,.pc 1 0),(4,.pc 2 0)],es:=[.cell [.int .i64,.str,.int .i64,.int .i64,.row 3],.cell [.int .i64],.cell [.int .i64],.row 25]}),(.normal,{ts:=[(2,.pc 0 0),(3,.pc 1 0),(4,.pc 2 0),(6,.pc 3 0)],es:=[.cell [.int .i64,.str,.int .i64,.int .i64,.row 4],.cell [.int .i64],.cell [.int .i64],.cell [.sl 52,.int .i64],.row 25]})])]
noncomputable def F56 (x:I56.ty CC):Option (ze CC O56):=zim ⟨false⟩ [P19,P20,P22,P47,P26,P52,P53] (P55) (P54) lpO Tryz.prog Tryz.f9 3 I56 O56 H56 x
noncomputable def P56:Spec CC:=⟨9,3,I56,O56,F56⟩
theorem K56:Spec.OK Tryz.prog P56:=zm4 (zd K19 (zd K20 (zd K22 (zd K47 (zd K26 (zd K52 (zd K53 zu))))))) K55 K54 zo zn H56 (by kernel_rfl) (by kernel_rfl) (by kernel_rfl) fun x=>rfl
def I57:Sig:={ts:=[(0,.int .i64)],es:=[]}
def O57:List (XK×Sig):=[(.ret,{ts:=[(0,.row 0),(1,.bool)],es:=[.row 22]})]
def H57:Nat→Option Hint:=hfind [(9,.cut [(.normal,{ts:=[(4,.int .i64),(5,.bool)],es:=[]})]),(13,.cut [(.normal,{ts:=[(4,.int .i64),(5,.bool)],es:=[]})]),(17,.cut [(.normal,{ts:=[(4,.int .i64),(5,.bool)],es:=[]})]),(20,.cut [(.ret,{ts:=[(2,.row 0),(3,.bool)],es:=[.row 22]}),(.normal,{ts:=[],es:=[]})]),(26,.cut [(.ret,{ts:=[(2,.row 0),(3,.bool)],es:=[.row 22]}),(.normal,{ts:=[],es:=[]})]),(32,.cut [(.ret,{ts:=[(2,.row 0),(3,.bool)],es:=[.row 22]}),(.normal,{ts:=[],es:=[]})]),(38,.cut [(.ret,{ts:=[(2,.row 0),(3,.bool)],es:=[.row 22]}),(.normal,{ts:=[],es:=[]})]),(44,.cut [(.ret,{ts:=[(2,.row 0),(3,.bool)],es:=[.row 22]}),(.normal,{ts:=[],es:=[]})]),(50,.cut [(.ret,{ts:=[(2,.row 0),(3,.bool)],es:=[.row 22]}),(.normal,{ts:=[],es:=[]})]),(57,.cut [(.normal,{ts:=[(26,.bool)],es:=[]})]),(61,.cut [(.normal,{ts:=[(26,.bool)],es:=[]})]),(65,.cut [(.normal,{ts:=[(26,.bool)],es:=[]})]),(69,.cut [(.normal,{ts:=[(26,.bool)],es:=[]})]),(73,.cut [(.normal,{ts:=[(26,.bool)],es:=[]})]),(77,.cut [(.normal,{ts:=[(26,.bool)],es:=[]})]),(81,.cut [(.normal,{ts:=[(26,.bool)],es:=[]})]),(85,.cut [(.normal,{ts:=[(26,.bool)],es:=[]})])]
noncomputable def F57 (x:I57.ty CC):Option (ze CC O57):=zC ⟨false⟩ [] lpO Tryz.prog Tryz.f75 2 I57 O57 H57 x
noncomputable def P57:Spec CC:=⟨75,2,I57,O57,F57⟩
theorem K57:Spec.OK Tryz.prog P57:=zl zu zo zn H57 (by kernel_rfl) (by kernel_rfl) (by kernel_rfl) fun x=>rfl
def I58:Sig:={ts:=[(0,.sl 25),(1,.sl 22)],es:=[]}
def O58:List (XK×Sig):=[(.ret,{ts:=[(0,.bool)],es:=[]})]
def H58:Nat→Option Hint:=hfind [(14,.loop {ts:=[(1,.sl 22),(12,.sl 25),(13,.int .i64),(14,.int .i64)],es:=[]} [(.ret,{ts:=[(4,.bool)],es:=[]}),(.exit 0,{ts:=[],es:=[]})]),(26,.draw [(0,true),(1,true),(2,true),(3,true),(4,true),(5,true),(6,true)] [])]
noncomputable def F58 (x:I58.ty CC):Option (ze CC O58):=zC ⟨false⟩ [] lpO Tryz.prog Tryz.f76 1 I58 O58 H58 x
noncomputable def P58:Spec CC:=⟨76,1,I58,O58,F58⟩
theorem K58:Spec.OK Tryz.prog P58:=zl zu zo zn H58 (by kernel_rfl) (by kernel_rfl) (by kernel_rfl) fun x=>rfl
def I59:Sig:={ts:=[(0,.sl 25),(1,.int .i64)],es:=[]}
def O59:List (XK×Sig):=[(.ret,{ts:=[(0,.bool)],es:=[]})]
def H59:Nat→Option Hint:=hfind [(6,.loop {ts:=[(1,.int .i64),(7,.sl 25),(8,.int .i64),(9,.int .i64)],es:=[]} [(.ret,{ts:=[(4,.bool)],es:=[]}),(.exit 0,{ts:=[],es:=[]})])]
noncomputable def F59 (x:I59.ty CC):Option (ze CC O59):=zC ⟨false⟩ [] lpO Tryz.prog Tryz.f77 1 I59 O59 H59 x
noncomputable def P59:Spec CC:=⟨77,1,I59,O59,F59⟩
theorem K59:Spec.OK Tryz.prog P59:=zl zu zo zn H59 (by kernel_rfl) (by kernel_rfl) (by kernel_rfl) fun x=>rfl
def I60:Sig:={ts:=[(0,.int .i64)],es:=[]}
def O60:List (XK×Sig):=[(.ret,{ts:=[(0,.bool)],es:=[]})]
def H60:Nat→Option Hint:=hfind [(3,.cut [(.normal,{ts:=[(2,.bool)],es:=[]})])]
noncomputable def F60 (x:I60.ty CC):Option (ze CC O60):=zC ⟨false⟩ [] lpO Tryz.prog Tryz.f48 1 I60 O60 H60 x
noncomputable def P60:Spec CC:=⟨48,1,I60,O60,F60⟩
theorem K60:Spec.OK Tryz.prog P60:=zl zu zo zn H60 (by kernel_rfl) (by kernel_rfl) (by kernel_rfl) fun x=>rfl
def I61:Sig:={ts:=[(0,.int .i64)],es:=[]}
def O61:List (XK×Sig):=[(.ret,{ts:=[(0,.bool)],es:=[]})]
def H61:Nat→Option Hint:=hfind [(3,.cut [(.normal,{ts:=[(2,.bool)],es:=[]})])]
noncomputable def F61 (x:I61.ty CC):Option (ze CC O61):=zC ⟨false⟩ [] lpO Tryz.prog Tryz.f50 1 I61 O61 H61 x
noncomputable def P61:Spec CC:=⟨50,1,I61,O61,F61⟩
theorem K61:Spec.OK Tryz.prog P61:=zl zu zo zn H61 (by kernel_rfl) (by kernel_rfl) (by kernel_rfl) fun x=>rfl
def I62:Sig:={ts:=[(0,.val 25)],es:=[]}
def O62:List (XK×Sig):=[(.ret,{ts:=[(0,.bool)],es:=[]})]
def H62:Nat→Option Hint:=hfind [(20,.cut [(.ret,{ts:=[(2,.bool)],es:=[]}),(.normal,{ts:=[],es:=[]})]),(25,.loop {ts:=[(31,.sl 25),(32,.int .i64),(33,.int .i64)],es:=[]} [(.ret,{ts:=[(2,.bool)],es:=[]}),(.exit 1,{ts:=[],es:=[]})]),(37,.cut [(.normal,{ts:=[(31,.sl 25),(32,.int .i64),(33,.int .i64),(44,.bool)],es:=[]})]),(49,.cut [(.ret,{ts:=[(2,.bool)],es:=[]}),(.normal,{ts:=[],es:=[]})]),(54,.loop {ts:=[(1,.pc 0 0),(5,.int .i64),(8,.int .i64)],es:=[.cell [.int .i64,.str,.int .i64,.int .i64,.sl 25]]} [(.exit 3,{ts:=[(1,.pc 0 0),(5,.int .i64),(8,.int .i64)],es:=[.cell [.int .i64,.str,.int .i64,.int .i64,.sl 25]]})]),(57,.cut [(.normal,{ts:=[(1,.pc 0 0),(5,.int .i64),(8,.int .i64),(59,.bool)],es:=[.cell [.int .i64,.str,.int .i64,.int .i64,.sl 25]]})]),(64,.cut [(.normal,{ts:=[(2,.bool)],es:=[]})]),(69,.cut [(.normal,{ts:=[(1,.pc 0 0),(5,.int .i64),(27,.int .i64),(79,.bool)],es:=[.cell [.int .i64,.str,.int .i64,.int .i64,.sl 25]]})]),(73,.cut [(.normal,{ts:=[(1,.pc 0 0),(5,.int .i64),(27,.int .i64),(79,.bool)],es:=[.cell [.int .i64,.str,.int .i64,.int .i64,.sl 25]]})]),(77,.cut [(.normal,{ts:=[(1,.pc 0 0),(5,.int .i64),(27,.int .i64),(79,.bool)],es:=[.cell [.int .i64,.str,.int .i64,.int .i64,.sl 25]]})]),(80,.cut [(.ret,{ts:=[(2,.bool)],es:=[]}),(.normal,{ts:=[],es:=[]})]),(82,.cut [(.normal,{ts:=[(2,.bool)],es:=[]})]),(86,.cut [(.ret,{ts:=[(2,.bool)],es:=[]}),(.normal,{ts:=[],es:=[]})]),(88,.cut [(.normal,{ts:=[(2,.bool)],es:=[]})]),(92,.cut [(.ret,{ts:=[(2,.bool)],es:=[]}),(.normal,{ts:=[],es:=[]})]),(97,.loop {ts:=[(115,.sl 25),(116,.int .i64),(117,.int .i64)],es:=[]} [(.ret,{ts:=[(2,.bool)],es:=[]}),(.exit 5,{ts:=[],es:=[]})]),(121,.cut [(.ret,{ts:=[(2,.bool)],es:=[]}),(.normal,{ts:=[],es:=[]})]),(123,.cut [(.normal,{ts:=[(2,.bool)],es:=[]})]),(128,.cut [(.normal,{ts:=[(1,.pc 0 0),(138,.bool)],es:=[.cell [.int .i64,.str,.int .i64,.int .i64,.sl 25]]})])]
noncomputable def F62 (x:I62.ty CC):Option (ze CC O62):=zC ⟨false⟩ [P57,P58,P59,P60,P61] lpO Tryz.prog Tryz.f47 1 I62 O62 H62 x
noncomputable def P62:Spec CC:=⟨47,1,I62,O62,F62⟩
theorem K62:Spec.OK Tryz.prog P62:=zl (zd K57 (zd K58 (zd K59 (zd K60 (zd K61 zu))))) zo zn H62 (by kernel_rfl) (by kernel_rfl) (by kernel_rfl) fun x=>rfl
def I63:Sig:={ts:=[(0,.int .i64),(1,.int .i64)],es:=[]}
def O63:List (XK×Sig):=[(.ret,{ts:=[(0,.str)],es:=[]})]
def F63 (x:I63.ty CC):Option (ze CC O63):=Yh x
def P63:Spec CC:=⟨102,1,I63,O63,F63⟩
theorem K63:P63.OK Tryz.prog:=zdy (fn:=Tryz.f102) (by kernel_rfl) (by kernel_rfl) (by kernel_rfl) fun n h0 h1 w σ hg hw=>(Tryz.strconv_FormatInt_10 n h0 h1 w (hg.2.2.tab (by kernel_rfl) hw)).mono (by
    rintro e w' ⟨rfl,k,os,rfl⟩
    exact ⟨rfl,Lib.below_grow _ w (Nat.le_refl _) k os⟩)
def I64:Sig:={ts:=[(0,.int .i64)],es:=[]}
def O64:List (XK×Sig):=[(.ret,{ts:=[(0,.str)],es:=[]})]
def H64:Nat→Option Hint:=hfind []
noncomputable def F64 (x:I64.ty CC):Option (ze CC O64):=zC ⟨false⟩ [P63] lpO Tryz.prog Tryz.f79 1 I64 O64 H64 x
noncomputable def P64:Spec CC:=⟨79,1,I64,O64,F64⟩
theorem K64:Spec.OK Tryz.prog P64:=zl (zd K63 zu) zo zn H64 (by kernel_rfl) (by kernel_rfl) (by kernel_rfl) fun x=>rfl
def I65:Sig:={ts:=[(0,.sl 9),(1,.str)],es:=[]}
def O65:List (XK×Sig):=[(.ret,{ts:=[(0,.str)],es:=[]})]
def F65 (x:I65.ty CC):Option (ze CC O65):=(zbi CC 9) x
def P65:Spec CC:=⟨103,1,I65,O65,F65⟩
theorem K65:P65.OK Tryz.prog:=zj5 (fn:=Tryz.f103) (by kernel_rfl) (by kernel_rfl) (by kernel_rfl) (fun a c sep w=>Tryz.strings_Join_none a c sep w) (fun bk o c xs sep w h1 h2 h3 h4 h5=>Tryz.strings_Join bk o c xs sep w h1 h2 h3 h4 h5)
def I66:Sig:={ts:=[(0,.val 25)],es:=[]}
def O66:List (XK×Sig):=[(.ret,{ts:=[(0,.str)],es:=[]})]
def H66:Nat→Option Hint:=hfind [(6,.cut [(.ret,{ts:=[(2,.str)],es:=[]}),(.normal,{ts:=[(1,.pc 0 0)],es:=[.cell [.int .i64,.str,.int .i64,.int .i64,.sl 25]]})]),(12,.cut [(.ret,{ts:=[(2,.str)],es:=[]}),(.normal,{ts:=[(1,.pc 0 0)],es:=[.cell [.int .i64,.str,.int .i64,.int .i64,.sl 25]]})]),(14,.draw [(0,true),(1,true),(2,true),(3,true),(4,true),(5,false),(6,true),(7,true)] []),(20,.draw [(0,true),(1,true),(2,true),(3,true),(4,true),(5,false),(6,true),(7,true),(8,true)] [])]
noncomputable def F66 (x:I66.ty CC):Option (ze CC O66):=zC ⟨false⟩ [P64] lpO Tryz.prog Tryz.f83 1 I66 O66 H66 x
noncomputable def P66:Spec CC:=⟨83,1,I66,O66,F66⟩
theorem K66:Spec.OK Tryz.prog P66:=zl (zd K64 zu) zo zn H66 (by kernel_rfl) (by kernel_rfl) (by kernel_rfl) fun x=>rfl
def I67:Sig:={ts:=[(0,.pc 0 0),(1,.str)],es:=[.obj 0 0]}
def O67:List (XK×Sig):=[(.ret,{ts:=[(0,.int .i64),(1,.nili)],es:=[.obj 0 0]})]
def F67 (x:I67.ty CC):Option (ze CC O67):=(wg (α:=Unit)) x
def P67:Spec CC:=⟨84,2,I67,O67,F67⟩
theorem K67:P67.OK Tryz.prog:=zb0 (ρ:=Tryz.lays156_ren) (fn:=Tryz.f84) {Tryz.lays156 with} Tryz.Builder_Extra_156 (by kernel_rfl) (by kernel_rfl) (by kernel_rfl) (fun _ _ _ _=>by kernel_rfl)
def I68:Sig:={ts:=[(0,.str),(1,.int .i64)],es:=[]}
def O68:List (XK×Sig):=[(.ret,{ts:=[(0,.str)],es:=[]})]
def F68 (x:I68.ty CC):Option (ze CC O68):=xy x
def P68:Spec CC:=⟨85,1,I68,O68,F68⟩
theorem K68:P68.OK Tryz.prog:=zgG (fn:=Tryz.f85) (by kernel_rfl) (by kernel_rfl) (by kernel_rfl) fun s c w hc hl=>Tryz.strings_Repeat s c w hc hl
def I69:Sig:={ts:=[(0,.pc 0 0)],es:=[.obj 0 0]}
def O69:List (XK×Sig):=[(.ret,{ts:=[(0,.str)],es:=[.gone]})]
def F69 (x:I69.ty CC):Option (ze CC O69):=(XG (α:=Unit)) x
def P69:Spec CC:=⟨86,1,I69,O69,F69⟩
theorem K69:P69.OK Tryz.prog:=zgI (ρ:=Tryz.lays169_ren) (fn:=Tryz.f86) Tryz.lays169 Tryz.Builder_Extra_169 (by kernel_rfl) (by kernel_rfl) (by kernel_rfl) (fun _ _ _ _=>by kernel_rfl)
def I70:Sig:={ts:=[(0,.val 25),(1,.int .i64)],es:=[]}
def O70:List (XK×Sig):=[(.ret,{ts:=[(0,.str)],es:=[]})]
def H70:Nat→Option Hint:=hfind [(10,.loop {ts:=[(1,.int .i64),(5,.pc 0 0),(10,.sl 25),(11,.int .i64),(12,.int .i64)],es:=[.obj 0 0]} [(.exit 0,{ts:=[(1,.int .i64),(5,.pc 0 0)],es:=[.obj 0 0]})]),(21,.draw [(0,true),(1,true),(3,true),(4,true),(5,true),(2,false),(6,false),(7,true),(8,true),(9,false)] [])]
def I71:Sig:={ts:=[(0,.sl 25),(1,.str),(2,.int .i64)],es:=[]}
def O71:List (XK×Sig):=[(.ret,{ts:=[(0,.str)],es:=[]})]
def H71:Nat→Option Hint:=hfind [(8,.loop {ts:=[(1,.str),(2,.int .i64),(7,.row 0),(10,.sl 25),(11,.int .i64),(12,.int .i64)],es:=[.row 9]} [(.exit 0,{ts:=[(1,.str),(7,.row 0)],es:=[.row 9]})])]
def I72:Sig:={ts:=[(0,.val 25),(1,.int .i64)],es:=[]}
def O72:List (XK×Sig):=[(.ret,{ts:=[(0,.str)],es:=[]})]
def H72:Nat→Option Hint:=hfind [(10,.cut [(.ret,{ts:=[(4,.str)],es:=[]}),(.normal,{ts:=[(2,.pc 0 0)],es:=[.cell [.int .i64,.str,.int .i64,.int .i64,.sl 25]]})]),(17,.cut [(.normal,{ts:=[(2,.pc 0 0),(5,.str),(16,.bool)],es:=[.cell [.int .i64,.str,.int .i64,.int .i64,.sl 25]]})])]
def I73:Sig:={ts:=[(0,.val 25),(1,.int .i64)],es:=[]}
def O73:List (XK×Sig):=[(.ret,{ts:=[(0,.str)],es:=[]})]
def H73:Nat→Option Hint:=hfind [(5,.draw [(0,true),(1,true),(2,true),(3,true),(4,true),(5,true),(6,true),(7,true),(8,true),(9,true),(10,false),(11,true),(12,true),(13,true)] []),(11,.cut [(.normal,{ts:=[(1,.int .i64),(2,.pc 0 0),(5,.int .i64),(6,.str)],es:=[.cell [.int .i64,.str,.int .i64,.int .i64,.sl 25]]})])]
def I74:Sig:={ts:=[(0,.val 25),(1,.int .i64)],es:=[]}
def O74:List (XK×Sig):=[(.ret,{ts:=[(0,.str)],es:=[]})]
def H74:Nat→Option Hint:=hfind [(6,.loop {ts:=[(1,.int .i64),(2,.pc 0 0),(5,.int .i64)],es:=[.cell [.int .i64,.str,.int .i64,.int .i64,.sl 25]]} [(.exit 0,{ts:=[(1,.int .i64),(2,.pc 0 0),(5,.int .i64)],es:=[.cell [.int .i64,.str,.int .i64,.int .i64,.sl 25]]})]),(9,.cut [(.normal,{ts:=[(1,.int .i64),(2,.pc 0 0),(5,.int .i64),(20,.bool)],es:=[.cell [.int .i64,.str,.int .i64,.int .i64,.sl 25]]})]),(16,.draw [(0,true),(1,true),(2,true),(3,true),(4,true),(5,true),(6,true),(7,true),(8,true),(9,false),(10,true),(11,true)] []),(20,.cut [(.normal,{ts:=[(1,.int .i64),(2,.pc 0 0),(5,.int .i64),(6,.str)],es:=[.cell [.int .i64,.str,.int .i64,.int .i64,.sl 25]]})]),(26,.cut [(.normal,{ts:=[(6,.str)],es:=[]})])]
def I75:Sig:={ts:=[(0,.int .i64),(1,.pc 0 0),(2,.pc 1 0)],es:=[.cell [.int .i64,.str,.int .i64,.int .i64,.sl 25],.cell [.int .i64]]}
def O75:List (XK×Sig):=[(.ret,{ts:=[(0,.str)],es:=[.cell [.int .i64,.str,.int .i64,.int .i64,.sl 25],.cell [.int .i64]]})]
def H75:Nat→Option Hint:=hfind [(3,.draw [(0,true),(1,true),(2,true),(3,true),(4,true),(5,true),(6,false),(7,true)] [])]
def I76:Sig:={ts:=[(0,.int .i64),(1,.pc 0 0),(2,.pc 1 0)],es:=[.cell [.int .i64,.str,.int .i64,.int .i64,.sl 25],.cell [.int .i64]]}
def O76:List (XK×Sig):=[(.ret,{ts:=[(0,.str)],es:=[.cell [.int .i64,.str,.int .i64,.int .i64,.sl 25],.cell [.int .i64]]})]
def H76:Nat→Option Hint:=hfind [(3,.draw [(0,true),(1,true),(2,true),(3,true),(4,true),(5,true),(6,false),(7,true)] [])]
def I77:Sig:={ts:=[(0,.val 25),(1,.int .i64)],es:=[]}
def O77:List (XK×Sig):=[(.ret,{ts:=[(0,.str)],es:=[]})]
def H77:Nat→Option Hint:=hfind [(10,.cut [(.ret,{ts:=[(4,.str)],es:=[]}),(.normal,{ts:=[(2,.pc 0 0),(3,.pc 1 0)],es:=[.cell [.int .i64,.str,.int .i64,.int .i64,.sl 25],.cell [.int .i64]]})]),(16,.cut [(.ret,{ts:=[(4,.str)],es:=[]}),(.normal,{ts:=[(2,.pc 0 0),(3,.pc 1 0)],es:=[.cell [.int .i64,.str,.int .i64,.int .i64,.sl 25],.cell [.int .i64]]})]),(22,.cut [(.ret,{ts:=[(4,.str)],es:=[]}),(.normal,{ts:=[(2,.pc 0 0),(3,.pc 1 0)],es:=[.cell [.int .i64,.str,.int .i64,.int .i64,.sl 25],.cell [.int .i64]]})]),(28,.cut [(.ret,{ts:=[(4,.str)],es:=[]}),(.normal,{ts:=[(2,.pc 0 0),(3,.pc 1 0)],es:=[.cell [.int .i64,.str,.int .i64,.int .i64,.sl 25],.cell [.int .i64]]})]),(34,.cut [(.ret,{ts:=[(4,.str)],es:=[]}),(.normal,{ts:=[(2,.pc 0 0),(3,.pc 1 0)],es:=[.cell [.int .i64,.str,.int .i64,.int .i64,.sl 25],.cell [.int .i64]]})]),(40,.cut [(.ret,{ts:=[(4,.str)],es:=[]}),(.normal,{ts:=[(2,.pc 0 0),(3,.pc 1 0)],es:=[.cell [.int .i64,.str,.int .i64,.int .i64,.sl 25],.cell [.int .i64]]})]),(42,.draw [(0,true),(3,true),(4164,false),(2,true),(4,false),(5,true),(6,true),(7,true),(1,false),(2,true),(5,true),(6,true),(7,true)] [(.normal,{ts:=[(4,.str)],es:=[]})]),(46,.cut [(.ret,{ts:=[(4,.str)],es:=[]}),(.normal,{ts:=[(2,.pc 0 0),(3,.pc 1 0)],es:=[.cell [.int .i64,.str,.int .i64,.int .i64,.sl 25],.cell [.int .i64]]})]),(58,.draw [(0,true),(1,true),(2,true),(3,true),(4,true),(5,true),(6,false),(7,true),(8,true),(9,true)] [])]
def I78:Sig:={ts:=[(0,.str),(1,.val 25),(2,.int .i64)],es:=[]}
def O78:List (XK×Sig):=[(.ret,{ts:=[(0,.str)],es:=[]})]
def H78:Nat→Option Hint:=hfind [(3,.draw [(0,true),(1,true),(2,true),(3,true),(4,true),(5,true),(6,true),(10,true),(11,true),(14,true),(15,true),(16,true),(17,true),(18,true),(22,true),(23,true),(24,true),(25,true),(26,true),(7,false),(8,true),(9,true),(12,true),(13,true),(19,false),(20,true),(21,true),(27,false),(28,true),(29,true)] [])]
def I79:Sig:={ts:=[(0,.int .i64),(1,.pc 0 0),(2,.pc 1 0)],es:=[.cell [.int .i64,.str,.int .i64,.int .i64,.sl 25],.cell [.int .i64]]}
def O79:List (XK×Sig):=[(.ret,{ts:=[(0,.str)],es:=[.cell [.int .i64,.str,.int .i64,.int .i64,.sl 25],.cell [.int .i64]]})]
def H79:Nat→Option Hint:=hfind [(3,.draw [(0,true),(1,true),(2,true),(3,true),(4,true),(5,true),(6,false),(7,true)] [])]
def I80:Sig:={ts:=[(0,.val 25),(1,.int .i64)],es:=[]}
def O80:List (XK×Sig):=[(.ret,{ts:=[(0,.str)],es:=[]})]
def H80:Nat→Option Hint:=hfind [(5,.draw [(0,true),(1,true),(2,true),(3,true),(4,true),(5,false),(6,true),(7,true),(8,true)] []),(12,.cut [(.ret,{ts:=[(4,.str)],es:=[]}),(.normal,{ts:=[(5,.clo 78 [.pc 0 0,.pc 1 0])],es:=[.cell [.int .i64,.str,.int .i64,.int .i64,.sl 25],.cell [.int .i64]]})]),(14,.draw [(0,true),(3,true),(4164,false),(2,true),(4,false),(5,true),(6,true),(7,true),(1,false),(2,true),(5,true),(6,true),(7,true)] [(.normal,{ts:=[(4,.str)],es:=[]})]),(18,.cut [(.ret,{ts:=[(4,.str)],es:=[]}),(.normal,{ts:=[(5,.clo 78 [.pc 0 0,.pc 1 0])],es:=[.cell [.int .i64,.str,.int .i64,.int .i64,.sl 25],.cell [.int .i64]]})]),(20,.draw [(0,true),(3,true),(7,true),(4164,false),(4168,false),(2,true),(5,true),(6,true),(8,false),(9,true),(10,true),(11,true),(1,false),(2,true),(5,true),(6,true),(9,true),(10,true),(11,true),(2,true),(4,false),(5,true),(6,true),(8,false),(9,true),(10,true),(11,true)] [(.normal,{ts:=[(4,.str)],es:=[]})]),(24,.cut [(.ret,{ts:=[(4,.str)],es:=[]}),(.normal,{ts:=[(5,.clo 78 [.pc 0 0,.pc 1 0])],es:=[.cell [.int .i64,.str,.int .i64,.int .i64,.sl 25],.cell [.int .i64]]})]),(30,.cut [(.ret,{ts:=[(4,.str)],es:=[]}),(.normal,{ts:=[(5,.clo 78 [.pc 0 0,.pc 1 0])],es:=[.cell [.int .i64,.str,.int .i64,.int .i64,.sl 25],.cell [.int .i64]]})]),(36,.cut [(.ret,{ts:=[(4,.str)],es:=[]}),(.normal,{ts:=[(5,.clo 78 [.pc 0 0,.pc 1 0])],es:=[.cell [.int .i64,.str,.int .i64,.int .i64,.sl 25],.cell [.int .i64]]})]),(42,.cut [(.ret,{ts:=[(4,.str)],es:=[]}),(.normal,{ts:=[(5,.clo 78 [.pc 0 0,.pc 1 0])],es:=[.cell [.int .i64,.str,.int .i64,.int .i64,.sl 25],.cell [.int .i64]]})]),(56,.cut [(.ret,{ts:=[(4,.str)],es:=[]}),(.normal,{ts:=[(5,.clo 78 [.pc 0 0,.pc 1 0])],es:=[.cell [.int .i64,.str,.int .i64,.int .i64,.sl 25],.cell [.int .i64]]})]),(62,.cut [(.ret,{ts:=[(4,.str)],es:=[]}),(.normal,{ts:=[(5,.clo 78 [.pc 0 0,.pc 1 0])],es:=[.cell [.int .i64,.str,.int .i64,.int .i64,.sl 25],.cell [.int .i64]]})]),(76,.cut [(.ret,{ts:=[(4,.str)],es:=[]}),(.normal,{ts:=[(5,.clo 78 [.pc 0 0,.pc 1 0])],es:=[.cell [.int .i64,.str,.int .i64,.int .i64,.sl 25],.cell [.int .i64]]})]),(84,.draw [(0,true),(1,true),(2,true),(3,true),(4,true),(5,true),(6,true),(7,false),(8,true),(9,true),(10,true)] [])]
def I81:Sig:={ts:=[(0,.val 25),(1,.int .i64)],es:=[]}
def O81:List (XK×Sig):=[(.ret,{ts:=[(0,.str)],es:=[]})]
def H81:Nat→Option Hint:=hfind [(6,.cut [(.ret,{ts:=[(4,.str)],es:=[]}),(.normal,{ts:=[(2,.pc 0 0),(3,.pc 1 0)],es:=[.cell [.int .i64,.str,.int .i64,.int .i64,.sl 25],.cell [.int .i64]]})]),(12,.cut [(.ret,{ts:=[(4,.str)],es:=[]}),(.normal,{ts:=[(2,.pc 0 0),(3,.pc 1 0)],es:=[.cell [.int .i64,.str,.int .i64,.int .i64,.sl 25],.cell [.int .i64]]})]),(31,.cut [(.ret,{ts:=[(4,.str)],es:=[]}),(.normal,{ts:=[(2,.pc 0 0)],es:=[.cell [.int .i64,.str,.int .i64,.int .i64,.sl 25]]})]),(38,.loop {ts:=[(5,.clo 52 [.pc 0 0,.pc 1 0]),(6,.str),(33,.int .i64),(34,.int .i64)],es:=[.cell [.int .i64,.str,.int .i64,.int .i64,.sl 25],.cell [.int .i64]]} [(.exit 2,{ts:=[(6,.str)],es:=[]})]),(56,.cut [(.ret,{ts:=[(4,.str)],es:=[]}),(.normal,{ts:=[(2,.pc 0 0)],es:=[.cell [.int .i64,.str,.int .i64,.int .i64,.sl 25]]})]),(62,.cut [(.ret,{ts:=[(4,.str)],es:=[]}),(.normal,{ts:=[(2,.pc 0 0)],es:=[.cell [.int .i64,.str,.int .i64,.int .i64,.sl 25]]})]),(67,.draw [(0,true),(3,true),(4164,false),(2,true),(4,false),(5,true),(6,true),(1,false),(2,true),(5,true),(6,true)] [(.normal,{ts:=[(4,.str)],es:=[]})]),(72,.cut [(.ret,{ts:=[(4,.str)],es:=[]}),(.normal,{ts:=[(2,.pc 0 0)],es:=[.cell [.int .i64,.str,.int .i64,.int .i64,.sl 25]]})]),(77,.draw [(0,true),(3,true),(4164,false),(2,true),(4,false),(5,true),(6,true),(7,true),(1,false),(2,true),(5,true),(6,true),(7,true)] [(.normal,{ts:=[(4,.str)],es:=[]})]),(82,.cut [(.ret,{ts:=[(4,.str)],es:=[]}),(.normal,{ts:=[(2,.pc 0 0)],es:=[.cell [.int .i64,.str,.int .i64,.int .i64,.sl 25]]})]),(84,.draw [(0,true),(3,true),(7,true),(4164,false),(2,true),(4360,false),(5,true),(6,true),(8,false),(9,true),(10,true),(4,false),(5,true),(6,true),(9,true),(10,true),(1,false),(2,true),(5,true),(6,true),(8,false),(9,true),(10,true)] [(.normal,{ts:=[(4,.str)],es:=[]})]),(88,.cut [(.ret,{ts:=[(4,.str)],es:=[]}),(.normal,{ts:=[(2,.pc 0 0)],es:=[.cell [.int .i64,.str,.int .i64,.int .i64,.sl 25]]})]),(94,.cut [(.ret,{ts:=[(4,.str)],es:=[]}),(.normal,{ts:=[(2,.pc 0 0)],es:=[.cell [.int .i64,.str,.int .i64,.int .i64,.sl 25]]})]),(96,.draw [(0,true),(3,true),(4164,false),(2,true),(4,false),(5,true),(6,true),(1,false),(2,true),(5,true),(6,true)] [(.normal,{ts:=[(4,.str)],es:=[]})]),(100,.cut [(.ret,{ts:=[(4,.str)],es:=[]}),(.normal,{ts:=[(2,.pc 0 0)],es:=[.cell [.int .i64,.str,.int .i64,.int .i64,.sl 25]]})])]
noncomputable def YH (h:I81.ty CC→Option (ze CC O81)):Spec CC:=⟨25,1,I81,O81,h⟩
noncomputable def ziA (h:I81.ty CC→Option (ze CC O81)) (x:I70.ty CC):Option (ze CC O70):=zC ⟨false⟩ [P67,P68,YH h,P69] lpO Tryz.prog Tryz.f56 1 I70 O70 H70 x
noncomputable def zop (h:I81.ty CC→Option (ze CC O81)):Spec CC:=⟨56,1,I70,O70,ziA h⟩
theorem zqa {h:I81.ty CC→Option (ze CC O81)}(hh:Spec.OK Tryz.prog (YH h)):Spec.OK Tryz.prog (zop h):=zl (zd K67 (zd K68 (zd hh (zd K69 zu)))) zo zn H70 (by kernel_rfl) (by kernel_rfl) (by kernel_rfl) fun x=>rfl
noncomputable def zaC (h:I81.ty CC→Option (ze CC O81)) (x:I71.ty CC):Option (ze CC O71):=zC ⟨false⟩ [YH h,P65] lpO Tryz.prog Tryz.f81 1 I71 O71 H71 x
noncomputable def zdB (h:I81.ty CC→Option (ze CC O81)):Spec CC:=⟨81,1,I71,O71,zaC h⟩
theorem zfz {h:I81.ty CC→Option (ze CC O81)}(hh:Spec.OK Tryz.prog (YH h)):Spec.OK Tryz.prog (zdB h):=zl (zd hh (zd K65 zu)) zo zn H71 (by kernel_rfl) (by kernel_rfl) (by kernel_rfl) fun x=>rfl
noncomputable def ziB (h:I81.ty CC→Option (ze CC O81)) (x:I72.ty CC):Option (ze CC O72):=zC ⟨false⟩ [zdB h] lpO Tryz.prog Tryz.f55 1 I72 O72 H72 x
noncomputable def zoq (h:I81.ty CC→Option (ze CC O81)):Spec CC:=⟨55,1,I72,O72,ziB h⟩
theorem zqb {h:I81.ty CC→Option (ze CC O81)}(hh:Spec.OK Tryz.prog (YH h)):Spec.OK Tryz.prog (zoq h):=zl (zd (zfz hh) zu) zo zn H72 (by kernel_rfl) (by kernel_rfl) (by kernel_rfl) fun x=>rfl
noncomputable def ziC (h:I81.ty CC→Option (ze CC O81)) (x:I73.ty CC):Option (ze CC O73):=zC ⟨false⟩ [zdB h,YH h] lpO Tryz.prog Tryz.f54 1 I73 O73 H73 x
noncomputable def zor (h:I81.ty CC→Option (ze CC O81)):Spec CC:=⟨54,1,I73,O73,ziC h⟩
theorem zqc {h:I81.ty CC→Option (ze CC O81)}(hh:Spec.OK Tryz.prog (YH h)):Spec.OK Tryz.prog (zor h):=zl (zd (zfz hh) (zd hh zu)) zo zn H73 (by kernel_rfl) (by kernel_rfl) (by kernel_rfl) fun x=>rfl
noncomputable def ziD (h:I81.ty CC→Option (ze CC O81)) (x:I74.ty CC):Option (ze CC O74):=zC ⟨false⟩ [YH h,zdB h] lpO Tryz.prog Tryz.f53 1 I74 O74 H74 x
noncomputable def zos (h:I81.ty CC→Option (ze CC O81)):Spec CC:=⟨53,1,I74,O74,ziD h⟩
theorem zqd {h:I81.ty CC→Option (ze CC O81)}(hh:Spec.OK Tryz.prog (YH h)):Spec.OK Tryz.prog (zos h):=zl (zd hh (zd (zfz hh) zu)) zo zn H74 (by kernel_rfl) (by kernel_rfl) (by kernel_rfl) fun x=>rfl
noncomputable def ziE (h:I81.ty CC→Option (ze CC O81)) (x:I75.ty CC):Option (ze CC O75):=zC ⟨false⟩ [YH h] lpO Tryz.prog Tryz.f52 1 I75 O75 H75 x
noncomputable def zot (h:I81.ty CC→Option (ze CC O81)):Spec CC:=⟨52,1,I75,O75,ziE h⟩
theorem zqe {h:I81.ty CC→Option (ze CC O81)}(hh:Spec.OK Tryz.prog (YH h)):Spec.OK Tryz.prog (zot h):=zl (zd hh zu) zo zn H75 (by kernel_rfl) (by kernel_rfl) (by kernel_rfl) fun x=>rfl
noncomputable def ziF (h:I81.ty CC→Option (ze CC O81)) (x:I76.ty CC):Option (ze CC O76):=zC ⟨false⟩ [YH h] lpO Tryz.prog Tryz.f82 1 I76 O76 H76 x
noncomputable def zou (h:I81.ty CC→Option (ze CC O81)):Spec CC:=⟨82,1,I76,O76,ziF h⟩
theorem zqf {h:I81.ty CC→Option (ze CC O81)}(hh:Spec.OK Tryz.prog (YH h)):Spec.OK Tryz.prog (zou h):=zl (zd hh zu) zo zn H76 (by kernel_rfl) (by kernel_rfl) (by kernel_rfl) fun x=>rfl
noncomputable def ziG (h:I81.ty CC→Option (ze CC O81)) (x:I77.ty CC):Option (ze CC O77):=zC ⟨false⟩ [P66,zou h,P64,zdB h] lpO Tryz.prog Tryz.f51 1 I77 O77 H77 x
noncomputable def zov (h:I81.ty CC→Option (ze CC O81)):Spec CC:=⟨51,1,I77,O77,ziG h⟩
theorem zqg {h:I81.ty CC→Option (ze CC O81)}(hh:Spec.OK Tryz.prog (YH h)):Spec.OK Tryz.prog (zov h):=zl (zd K66 (zd (zqf hh) (zd K64 (zd (zfz hh) zu)))) zo zn H77 (by kernel_rfl) (by kernel_rfl) (by kernel_rfl) fun x=>rfl
noncomputable def ziH (h:I81.ty CC→Option (ze CC O81)) (x:I78.ty CC):Option (ze CC O78):=zC ⟨false⟩ [YH h] lpO Tryz.prog Tryz.f80 1 I78 O78 H78 x
noncomputable def zow (h:I81.ty CC→Option (ze CC O81)):Spec CC:=⟨80,1,I78,O78,ziH h⟩
theorem zqh {h:I81.ty CC→Option (ze CC O81)}(hh:Spec.OK Tryz.prog (YH h)):Spec.OK Tryz.prog (zow h):=zl (zd hh zu) zo zn H78 (by kernel_rfl) (by kernel_rfl) (by kernel_rfl) fun x=>rfl
noncomputable def ziI (h:I81.ty CC→Option (ze CC O81)) (x:I79.ty CC):Option (ze CC O79):=zC ⟨false⟩ [YH h] lpO Tryz.prog Tryz.f78 1 I79 O79 H79 x
noncomputable def zox (h:I81.ty CC→Option (ze CC O81)):Spec CC:=⟨78,1,I79,O79,ziI h⟩
theorem zqi {h:I81.ty CC→Option (ze CC O81)}(hh:Spec.OK Tryz.prog (YH h)):Spec.OK Tryz.prog (zox h):=zl (zd hh zu) zo zn H79 (by kernel_rfl) (by kernel_rfl) (by kernel_rfl) fun x=>rfl
noncomputable def ziJ (h:I81.ty CC→Option (ze CC O81)) (x:I80.ty CC):Option (ze CC O80):=zC ⟨false⟩ [P64,zox h,zow h,zdB h] lpO Tryz.prog Tryz.f49 1 I80 O80 H80 x
noncomputable def zoy (h:I81.ty CC→Option (ze CC O81)):Spec CC:=⟨49,1,I80,O80,ziJ h⟩
theorem zqj {h:I81.ty CC→Option (ze CC O81)}(hh:Spec.OK Tryz.prog (YH h)):Spec.OK Tryz.prog (zoy h):=zl (zd K64 (zd (zqi hh) (zd (zqh hh) (zd (zfz hh) zu)))) zo zn H80 (by kernel_rfl) (by kernel_rfl) (by kernel_rfl) fun x=>rfl
noncomputable def ziK (h:I81.ty CC→Option (ze CC O81)) (x:I81.ty CC):Option (ze CC O81):=zC ⟨false⟩ [P62,P60,zoy h,P61,zov h,zot h,zos h,zor h,zoq h,zop h] lpO Tryz.prog Tryz.f25 1 I81 O81 H81 x
noncomputable def zqk (h:I81.ty CC→Option (ze CC O81)):Spec CC:=⟨25,1,I81,O81,ziK h⟩
theorem zql {h:I81.ty CC→Option (ze CC O81)}(hh:Spec.OK Tryz.prog (YH h)):Spec.OK Tryz.prog (zqk h):=zl (zd K62 (zd K60 (zd (zqj hh) (zd K61 (zd (zqg hh) (zd (zqe hh) (zd (zqd hh) (zd (zqc hh) (zd (zqb hh) (zd (zqa hh) zu)))))))))) zo zn H81 (by kernel_rfl) (by kernel_rfl) (by kernel_rfl) fun x=>rfl
noncomputable def zfA:Nat→I81.ty CC→Option (ze CC O81)
  |0=>fun _=>none
  |k+1=>ziK (zfA k)
theorem zoz:∀ k,Spec.OK Tryz.prog (YH (zfA k))
  |0=>⟨Tryz.f25,by kernel_rfl,by kernel_rfl,by kernel_rfl,fun x r h=>by cases h⟩
  |k+1=>zql (zoz k)
noncomputable def F81 (x:I81.ty CC):Option (ze CC O81):=zfA 100000 x
noncomputable def P81:Spec CC:=⟨25,1,I81,O81,F81⟩
theorem K81:Spec.OK Tryz.prog P81:=zoz 100000
def I82:Sig:={ts:=[(0,.val 25)],es:=[]}
def O82:List (XK×Sig):=[(.ret,{ts:=[(0,.str)],es:=[]})]
def H82:Nat→Option Hint:=hfind []
noncomputable def F82 (x:I82.ty CC):Option (ze CC O82):=zC ⟨false⟩ [P81] lpO Tryz.prog Tryz.f11 1 I82 O82 H82 x
noncomputable def P82:Spec CC:=⟨11,1,I82,O82,F82⟩
theorem K82:Spec.OK Tryz.prog P82:=zl (zd K81 zu) zo zn H82 (by kernel_rfl) (by kernel_rfl) (by kernel_rfl) fun x=>rfl
def I83:Sig:={ts:=[],es:=[]}
def O83:List (XK×Sig):=[(.ret,{ts:=[(0,.bool)],es:=[]})]
def H83:Nat→Option Hint:=hfind [(7,.cut [(.normal,{ts:=[(0,.bool)],es:=[]})])]
noncomputable def F83 (x:I83.ty CC):Option (ze CC O83):=zC ⟨false⟩ [P56,P2,P82] lpO Tryz.prog Tryz.f10 1 I83 O83 H83 x
noncomputable def P83:Spec CC:=⟨10,1,I83,O83,F83⟩
theorem K83:Spec.OK Tryz.prog P83:=zl (zd K56 (zd K2 (zd K82 zu))) zo zn H83 (by kernel_rfl) (by kernel_rfl) (by kernel_rfl) fun x=>rfl
def I86:Sig:={ts:=[(0,.val 25)],es:=[]}
def O86:List (XK×Sig):=[(.ret,{ts:=[(0,.agg [.int .i64,.str,.int .i64,.int .i64,.row 0])],es:=[.row 34]})]
def H86:Nat→Option Hint:=hfind [(8,.loop {ts:=[(2,.pc 0 0),(3,.pc 1 0),(16,.sl 25),(17,.int .i64),(18,.int .i64)],es:=[.cell [.int .i64,.str,.int .i64,.int .i64,.nils],.cell [.int .i64,.str,.int .i64,.int .i64,.row 2],.row 34]} [(.exit 0,{ts:=[(2,.pc 0 0),(3,.pc 1 0)],es:=[.cell [.int .i64,.str,.int .i64,.int .i64,.nils],.cell [.int .i64,.str,.int .i64,.int .i64,.row 2],.row 34]})]),(19,.draw [(0,true),(1,true),(2,true),(3,false),(4,false),(5,false),(6,true),(7,false)] [])]
noncomputable def zlo (h:I86.ty CC→Option (ze CC O86)):Spec CC:=⟨13,1,I86,O86,h⟩
noncomputable def ziL (h:I86.ty CC→Option (ze CC O86)) (x:I86.ty CC):Option (ze CC O86):=zC ⟨false⟩ [zlo h] lpO Tryz.prog Tryz.f13 1 I86 O86 H86 x
noncomputable def zqm (h:I86.ty CC→Option (ze CC O86)):Spec CC:=⟨13,1,I86,O86,ziL h⟩
theorem zqn {h:I86.ty CC→Option (ze CC O86)}(hh:Spec.OK Tryz.prog (zlo h)):Spec.OK Tryz.prog (zqm h):=zl (zd hh zu) zo zn H86 (by kernel_rfl) (by kernel_rfl) (by kernel_rfl) fun x=>rfl
noncomputable def zfB:Nat→I86.ty CC→Option (ze CC O86)
  |0=>fun _=>none
  |k+1=>ziL (zfB k)
theorem zoA:∀ k,Spec.OK Tryz.prog (zlo (zfB k))
  |0=>⟨Tryz.f13,by kernel_rfl,by kernel_rfl,by kernel_rfl,fun x r h=>by cases h⟩
  |k+1=>zqn (zoA k)
noncomputable def F86 (x:I86.ty CC):Option (ze CC O86):=zfB 100000 x
noncomputable def P86:Spec CC:=⟨13,1,I86,O86,F86⟩
theorem K86:Spec.OK Tryz.prog P86:=zoA 100000
def I99:Sig:={ts:=[(0,.val 34),(1,.val 34),(2,.bool)],es:=[]}
def O99:List (XK×Sig):=[(.ret,{ts:=[(0,.bool)],es:=[]})]
def H99:Nat→Option Hint:=hfind [(4,.cut [(.normal,{ts:=[(2,.bool),(3,.pc 0 0),(4,.pc 1 0),(45,.bool)],es:=[.cell [.int .i64,.str,.int .i64,.int .i64,.sl 34],.cell [.int .i64,.str,.int .i64,.int .i64,.sl 34]]})]),(14,.loop {ts:=[(2,.bool),(3,.pc 0 0),(4,.pc 1 0),(48,.int .i64),(49,.int .i64)],es:=[.cell [.int .i64,.str,.int .i64,.int .i64,.sl 34],.cell [.int .i64,.str,.int .i64,.int .i64,.sl 34]]} [(.ret,{ts:=[(6,.bool)],es:=[]}),(.exit 0,{ts:=[],es:=[]})]),(26,.draw [(0,true),(1,true),(2,true),(3,true),(4,true),(5,true),(6,true),(7,true),(8,true),(9,true),(10,true),(11,false),(12,true)] [])]
noncomputable def zlp (h:I99.ty CC→Option (ze CC O99)):Spec CC:=⟨14,1,I99,O99,h⟩
noncomputable def ziM (h:I99.ty CC→Option (ze CC O99)) (x:I99.ty CC):Option (ze CC O99):=zC ⟨false⟩ [zlp h] lpO Tryz.prog Tryz.f14 1 I99 O99 H99 x
noncomputable def zqo (h:I99.ty CC→Option (ze CC O99)):Spec CC:=⟨14,1,I99,O99,ziM h⟩
theorem zqp {h:I99.ty CC→Option (ze CC O99)}(hh:Spec.OK Tryz.prog (zlp h)):Spec.OK Tryz.prog (zqo h):=zl (zd hh zu) zo zn H99 (by kernel_rfl) (by kernel_rfl) (by kernel_rfl) fun x=>rfl
noncomputable def zfC:Nat→I99.ty CC→Option (ze CC O99)
  |0=>fun _=>none
  |k+1=>ziM (zfC k)
theorem zoB:∀ k,Spec.OK Tryz.prog (zlp (zfC k))
  |0=>⟨Tryz.f14,by kernel_rfl,by kernel_rfl,by kernel_rfl,fun x r h=>by cases h⟩
  |k+1=>zqp (zoB k)
noncomputable def F99 (x:I99.ty CC):Option (ze CC O99):=zfC 100000 x
noncomputable def P99:Spec CC:=⟨14,1,I99,O99,F99⟩
theorem K99:Spec.OK Tryz.prog P99:=zoB 100000
def zfD:Sig:={ts:=[(0,.str),(1,.int .i64)],es:=[]}
def zlq:List (XK×Sig):=[(.ret,{ts:=[(0,.bool)],es:=[]})]
def zoC:Nat→Option Hint:=hfind [(6,.cut [(.normal,{ts:=[(0,.str),(1,.int .i64),(5,.pc 0 0),(29,.bool)],es:=[.cell [.int .i64,.str,.int .i64,.int .i64,.sl 25]]})]),(17,.draw [(0,true),(1,true),(2,true),(3,true),(4,true),(5,true),(6,true),(7,true),(4621,false),(9,true),(10,true),(11,true),(12,true),(13,false),(14,false),(15,true),(16,true),(8,false),(9,true),(10,true),(11,true),(12,true),(14,false),(15,true),(16,true)] [(.normal,{ts:=[(5,.pc 0 0),(8,.str),(10,.pc 1 0),(12,.int .i64)],es:=[.cell [.int .i64,.str,.int .i64,.int .i64,.sl 25],.cell [.int .i64,.str,.int .i64,.int .i64,.sl 25]]})]),(27,.draw [(0,true),(2,true),(5,true),(7,true),(1,false),(3,false),(4,false),(6,false),(8,true),(9,true),(10,true)] [])]
noncomputable def zlr (x:zfD.ty CC):Option (ze CC zlq):=zC ⟨false⟩ [P56,P83,P82,P86,P99] lpO Tryz.prog Tryz.f7 1 zfD zlq zoC x
noncomputable def zqq:Spec CC:=⟨7,1,zfD,zlq,zlr⟩
theorem zqr:Spec.OK Tryz.prog zqq:=zl (zd K56 (zd K83 (zd K82 (zd K86 (zd K99 zu))))) zo zn zoC (by kernel_rfl) (by kernel_rfl) (by kernel_rfl) fun x=>rfl
end Go.Px
