/- Part A7. -/
import Derived.Test.YtnkjgenigoecjaaGreatDoorB1
import Derived.Lib.Bytealg
import Derived.Lib.ParseIntB
set_option linter.unusedVariables false
set_option linter.unusedSimpArgs false
namespace Go.Px
open Go.Lib renaming parseIntB->a,intSat->d,indexByte->g
section
variable {C:Cod}{P:Program}
theorem Spec.ofBelow {f : FuncId} {fn : Func} {nr : Nat} {ins : Sig} {outs : List (XK × Sig)} {F : ins.ty C -> U7 (zf C outs)} (hf : P.funcs[f]? = some fn) (hnm : (fn.name == "runtime.NumGoroutine") = false) (hbs : fn.body.isNone = false)
    (hcall:∀x r,F x=some r->∀(w:World) (Z:FS),C.gl w Z->∀(ν:Val) (args:List Value),Z.sub w->args.length=ins.ts.length->(∀t,VR C Z ν ((args[t]?).getD undef) ((ins.open x).env t))->
      Calls P f args.toArray w λe w'=>RowKit.Below w.heap.size w w'/\∃vals,e = .returned (zdg vals)/\vals.length=nr/\zR outs r λxe S'=>xe = .ret/\S'.heap=(λ_=>none)/\∀t,(S'.env t).flat=true/\VR C Z ν ((vals[t]?).getD undef) (S'.env t)) :
    Spec.OK P ⟨f,nr,ins,outs,F⟩:=by
 refine⟨fn,hf,hnm,hbs,λx r hr κ st Z hgl PV ν vs ids args hm hargs hA hpre=>?_⟩;have henv:∀t,VR C Z ν ((args[t]?).getD undef) ((ins.open x).env t):=λt=>by
  have:=hA.env t;rw[yp] at this;exact this
 refine Calls.mono (hcall x r hr st.w Z hgl ν args hpre.inv.sub hargs henv) ?_;rintro e w' ⟨hb,vals,rfl,hl,ho⟩;refine zdB ?_ ho;rintro xe S' ⟨rfl,hh,hv⟩;refine⟨vals,Z,[],rfl,hl,(hpre.inv.sub_own λg _=>Sep.nil).below hb,ν,vs,[],⟨⟨List.nodup_nil,λi=>by rw[hh];simp,rfl,λi cs hi=>(by rw[hh] at hi;cases hi),λt=>?_,hA.one⟩,λt=>WL (hv t).1,λi cs hi=>(by rw[hh] at hi;cases hi),λk _ hs=>(by rw[hh] at hs;cases hs)⟩⟩;rw[yp];exact(hv t).2
abbrev Wg(x:ByteArray×Int):U7 Int:=some (g x.1.data.toList x.2.toNat.toUInt8)
theorem zhJ {f : FuncId} {fn : Func} (hf : P.funcs[f]? = some fn) (hnm : (fn.name == "runtime.NumGoroutine") = false) (hbs : fn.body.isNone = false)
    (hc:∀(s:ByteArray) (c:Int) (w:World),Calls P f #[.string s,.int .u8 c] w λe w'=>e = .returned (.int .i64 (g s.data.toList c.toNat.toUInt8))/\w'=w) :
    Spec.OK (C:=C) P ⟨f,1,{ts:=[(0,.str),(1,.int .u8)],es:=[]},[(.ret,{ts:=[(0,.int .i64)],es:=[]})],Wg⟩:=by
 refine Spec.ofBelow hf hnm hbs ?_;rintro⟨s,c⟩ r hr w Z hg ν args hw hl hv;cases hr
 match args,hl with
 |[a0,a1],_=>
   have h0:a0 = .string s:=(hv 0).str_inv;have h1:a1 = .int .u8 c:=(hv 1).int_inv;subst h0 h1;refine(hc s c w).mono ?_;rintro e w' ⟨rfl,rfl⟩;refine⟨RowKit.Below.refl _ _,[_],rfl,rfl,rfl,rfl,λt=>?_⟩
   match t with
   |0=>exact⟨rfl,Rv.int⟩
   |t+1=>exact⟨rfl,trivial⟩
def ww(x:ByteArray×Int×Int):U7 (Int⊕Int):=if x.2.1=10/\x.2.2=64/\x.1.size<=281474976710656 then
    (match a 64 x.1.data.toList with
    | .ok v=>some (.inl v)
    | .syntax=>some (.inr 0)
    | .range=>some (.inr (d 64 x.1.data.toList))) else none
theorem zi6 {f te : Nat} {bt : TypeId} {fn : Func} (hf : P.funcs[f]? = some fn) (hnm : (fn.name == "runtime.NumGoroutine") = false) (hbs : fn.body.isNone = false)
    (hok:∀(s:ByteArray),s.size<=9223372036854775806->∀v,a 64 s.data.toList = .ok v->∀(w:World),Calls P f #[.string s,.int .i64 10,.int .i64 64] w λe w'=>e = .returned (.tuple #[.int .i64 v,.nilIface])/\(w'=w\/∃t,w'=Lib.bytesWorld w bt t))
    (hsy:∀(s:ByteArray),s.size<=281474976710656->a 64 s.data.toList = .syntax->∀(w:World) (Z:FS),C.gl w Z->Z.sub w->Calls P f #[.string s,.int .i64 10,.int .i64 64] w λe w'=>∃u,e = .returned (.tuple #[.int .i64 0,.iface te u])/\RowKit.Below w.heap.size w w')
    (hrg:∀(s:ByteArray),s.size<=281474976710656->a 64 s.data.toList = .range->∀(w:World) (Z:FS),C.gl w Z->Z.sub w->Calls P f #[.string s,.int .i64 10,.int .i64 64] w λe w'=>∃u,e = .returned (.tuple #[.int .i64 (d 64 s.data.toList),.iface te u])/\RowKit.Below w.heap.size w w') :
    Spec.OK (C:=C) P ⟨f,2,{ts:=[(0,.str),(1,.int .i64),(2,.int .i64)],es:=[]},[(.ret,{ts:=[(0,.int .i64),(1,.nili)],es:=[]}),(.ret,{ts:=[(0,.int .i64),(1,.ifc te .und)],es:=[]})],ww⟩:=by
 refine Spec.ofBelow hf hnm hbs ?_;rintro⟨s,b,z⟩ r hr w Z hg ν args hw hl hv;unfold ww at hr;split at hr
 case isFalse=>cases hr
 rename_i hc;obtain⟨rfl,rfl,hs⟩:=hc
 match args,hl with
 |[a0,a1,a2],_=>
   have h0:a0 = .string s:=(hv 0).str_inv;have h1:a1 = .int .i64 10:=(hv 1).int_inv;have h2:a2 = .int .i64 64:=(hv 2).int_inv;subst h0 h1 h2;simp only at hr hs;split at hr
   · rename_i v hp;cases hr;refine(hok s (by omega) v hp w).mono ?_;rintro e w' ⟨rfl,hw'⟩;refine⟨?_,[_,_],rfl,rfl,rfl,rfl,λt=>?_⟩
     · rcases hw' with rfl | ⟨t,rfl⟩
       ·exact RowKit.Below.refl _ _
       ·exact zfp w bt t
     · match t with
       |0=>exact⟨rfl,Rv.int⟩
       |1=>exact⟨rfl,Rv.nili⟩
       |t+2=>exact⟨rfl,trivial⟩
   · rename_i hp;cases hr;refine(hsy s hs hp w Z hg hw).mono ?_;rintro e w' ⟨u,rfl,hb⟩;refine⟨hb,[_,_],rfl,rfl,rfl,rfl,λt=>?_⟩
     match t with
     |0=>exact⟨rfl,Rv.int⟩
     |1=>exact⟨rfl,_,rfl,trivial⟩
     |t+2=>exact⟨rfl,trivial⟩
   · rename_i hp;cases hr;refine(hrg s hs hp w Z hg hw).mono ?_;rintro e w' ⟨u,rfl,hb⟩;refine⟨hb,[_,_],rfl,rfl,rfl,rfl,λt=>?_⟩
     match t with
     |0=>exact⟨rfl,Rv.int⟩
     |1=>exact⟨rfl,_,rfl,trivial⟩
     |t+2=>exact⟨rfl,trivial⟩
end
end Go.Px
