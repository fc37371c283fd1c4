/- Part A7. -/
import Derived.Test.YtlhommikjhhmbaaGreatDoorB1
import Derived.Lib.Bytealg
import Derived.Lib.ParseIntB
set_option linter.unusedVariables false
set_option linter.unusedSimpArgs false
namespace Go.Px
open Go.Lib renaming parseIntB->a,intSat->d,indexByte->g
section
variable {C:Cod}{P:Program}
theorem Spec.ofBelow {f : FuncId} {fn : Func} {nr : Nat} {ins : Sig} {outs : List (XK × Sig)} {F : ins.ty C -> U3 (zh C outs)} (y : P.funcs[f]? = some fn) (p : (fn.name == "runtime.NumGoroutine") = false) (n : fn.body.isNone = false)
    (h:∀x r,F x=some r->∀(w:World) (Z:FS),C.gl w Z->∀(ν:Val) (args:List Value),Z.sub w->args.length=ins.ts.length->(∀t,VR C Z ν ((args[t]?).getD undef) ((ins.open x).env t))->
      Calls P f args.toArray w λe w'=>RowKit.Below w.heap.size w w'/\∃b,e = .returned (zdg b)/\b.length=nr/\zT outs r λq S'=>q = .ret/\S'.heap=(λ_=>none)/\∀t,(S'.env t).flat=true/\VR C Z ν ((b[t]?).getD undef) (S'.env t)) :
    Spec.OK P ⟨f,nr,ins,outs,F⟩:=by
 refine⟨fn,y,p,n,λx r z κ st Z o PV ν vs A args B j hA c=>?_⟩;have l:∀t,VR C Z ν ((args[t]?).getD undef) ((ins.open x).env t):=λt=>by
  have:=hA.env t;rw[yr] at this;exact this
 refine Calls.mono (h x r z st.w Z o ν args c.inv.sub j l) ?_;rintro e w' ⟨hb,b,rfl,v,u⟩;refine zdB ?_ u;rintro q S' ⟨rfl,m,s⟩;refine⟨b,Z,[],rfl,v,(c.inv.sub_own λg _=>Sep.nil).below hb,ν,vs,[],⟨⟨List.nodup_nil,λi=>by rw[m];simp,rfl,λi cs hi=>(by rw[m] at hi;cases hi),λt=>?_,hA.one⟩,λt=>WS (s t).1,λi cs hi=>(by rw[m] at hi;cases hi),λk _ hs=>(by rw[m] at hs;cases hs)⟩⟩;rw[yr];exact(s t).2
abbrev Wl(x:ByteArray×Int):U3 Int:=some (g x.1.data.toList x.2.toNat.toUInt8)
theorem zhJ {f : FuncId} {fn : Func} (l : P.funcs[f]? = some fn) (h : (fn.name == "runtime.NumGoroutine") = false) (b : fn.body.isNone = false)
    (k:∀(s:ByteArray) (c:Int) (w:World),Calls P f #[.string s,.int .u8 c] w λe w'=>e = .returned (.int .i64 (g s.data.toList c.toNat.toUInt8))/\w'=w) :
    Spec.OK (C:=C) P ⟨f,1,{ts:=[(0,.str),(1,.int .u8)],es:=[]},[(.ret,{ts:=[(0,.int .i64)],es:=[]})],Wl⟩:=by
 refine Spec.ofBelow l h b ?_;rintro⟨s,c⟩ r m w Z n ν args o j i;cases m
 match args,j with
 |[a0,a1],_=>
   have h0:a0 = .string s:=(i 0).str_inv;have h1:a1 = .int .u8 c:=(i 1).int_inv;subst h0 h1;refine(k s c w).mono ?_;rintro e w' ⟨rfl,rfl⟩;refine⟨RowKit.Below.refl _ _,[_],rfl,rfl,rfl,rfl,λt=>?_⟩
   match t with
   |0=>exact⟨rfl,Rv.int⟩
   |t+1=>exact⟨rfl,trivial⟩
def wx(x:ByteArray×Int×Int):U3 (Int⊕Int):=if x.2.1=10/\x.2.2=64/\x.1.size<=281474976710656 then
    (match a 64 x.1.data.toList with
    | .ok v=>some (.inl v)
    | .syntax=>some (.inr 0)
    | .range=>some (.inr (d 64 x.1.data.toList))) else none
theorem zi8 {f i : Nat} {q : TypeId} {fn : Func} (B : P.funcs[f]? = some fn) (n : (fn.name == "runtime.NumGoroutine") = false) (j : fn.body.isNone = false)
    (h:∀(s:ByteArray),s.size<=9223372036854775806->∀v,a 64 s.data.toList = .ok v->∀(w:World),Calls P f #[.string s,.int .i64 10,.int .i64 64] w λe w'=>e = .returned (.tuple #[.int .i64 v,.nilIface])/\(w'=w\/∃t,w'=Lib.bytesWorld w q t))
    (m:∀(s:ByteArray),s.size<=281474976710656->a 64 s.data.toList = .syntax->∀(w:World) (Z:FS),C.gl w Z->Z.sub w->Calls P f #[.string s,.int .i64 10,.int .i64 64] w λe w'=>∃u,e = .returned (.tuple #[.int .i64 0,.iface i u])/\RowKit.Below w.heap.size w w')
    (k:∀(s:ByteArray),s.size<=281474976710656->a 64 s.data.toList = .range->∀(w:World) (Z:FS),C.gl w Z->Z.sub w->Calls P f #[.string s,.int .i64 10,.int .i64 64] w λe w'=>∃u,e = .returned (.tuple #[.int .i64 (d 64 s.data.toList),.iface i u])/\RowKit.Below w.heap.size w w') :
    Spec.OK (C:=C) P ⟨f,2,{ts:=[(0,.str),(1,.int .i64),(2,.int .i64)],es:=[]},[(.ret,{ts:=[(0,.int .i64),(1,.nili)],es:=[]}),(.ret,{ts:=[(0,.int .i64),(1,.ifc i .und)],es:=[]})],wx⟩:=by
 refine Spec.ofBelow B n j ?_;rintro⟨s,b,z⟩ r c w Z p ν args x y o;unfold wx at c;split at c
 case isFalse=>cases c
 rename_i A;obtain⟨rfl,rfl,hs⟩:=A
 match args,y with
 |[a0,a1,a2],_=>
   have h0:a0 = .string s:=(o 0).str_inv;have h1:a1 = .int .i64 10:=(o 1).int_inv;have h2:a2 = .int .i64 64:=(o 2).int_inv;subst h0 h1 h2;simp only at c hs;split at c
   · rename_i v hp;cases c;refine(h s Zc v hp w).mono ?_;rintro e w' ⟨rfl,l⟩;refine⟨?_,[_,_],rfl,rfl,rfl,rfl,λt=>?_⟩
     · rcases l with rfl | ⟨t,rfl⟩
       ·exact RowKit.Below.refl _ _
       ·exact zfn w q t
     · match t with
       |0=>exact⟨rfl,Rv.int⟩
       |1=>exact⟨rfl,Rv.nili⟩
       |t+2=>exact⟨rfl,trivial⟩
   · rename_i hp;cases c;refine(m s hs hp w Z p x).mono ?_;rintro e w' ⟨u,rfl,hb⟩;refine⟨hb,[_,_],rfl,rfl,rfl,rfl,λt=>?_⟩
     match t with
     |0=>exact⟨rfl,Rv.int⟩
     |1=>exact⟨rfl,_,rfl,trivial⟩
     |t+2=>exact⟨rfl,trivial⟩
   · rename_i hp;cases c;refine(k s hs hp w Z p x).mono ?_;rintro e w' ⟨u,rfl,hb⟩;refine⟨hb,[_,_],rfl,rfl,rfl,rfl,λt=>?_⟩
     match t with
     |0=>exact⟨rfl,Rv.int⟩
     |1=>exact⟨rfl,_,rfl,trivial⟩
     |t+2=>exact⟨rfl,trivial⟩
end
end Go.Px
