/- Part Ld: Px03ZF Px03ZG Px03ZH Px03ZI Px03ZJ Px03ZK. -/
import Derived.Test.YtghhopjjddppbaaGreatDoorLc
import Derived.Test.YtghhopjjddppbaaGreatDoorLb
namespace Go.Px
set_option linter.unusedVariables false
set_option linter.unusedSimpArgs false
theorem zmE:∀ x:Fin 10,IntKind.u8.wrap (48+IntKind.u8.wrap (x.val:Int))=((48+x.val:Nat):Int)∧UInt8.ofNat ((48+x.val:Nat):Int).toNat=UInt8.ofNat (48+x.val):=by decide +kernel
theorem zjh (u:Nat):x9 [IntKind.u8.wrap (48+IntKind.u8.wrap (Int.tmod (u:Int) 10))]=lit [UInt8.ofNat (48+u % 10)]:=by
 have e:Int.tmod (u:Int) 10=((u % 10:Nat):Int):=rfl
 have h:=zmE ⟨u % 10,Nat.mod_lt _ (by omega)⟩
 simp only at h
 rw [e,h.1]
 show ByteArray.push ByteArray.empty _=_
 rw [h.2]
 rfl
theorem zmF {u:Nat}(h:u < 18446744073709551616):IntKind.u64.wrap (u:Int)=(u:Int):=by
 simp only [IntKind.wrap,IntKind.bits,IntKind.signed]
 simp
 omega
theorem zeV {v:Int}:∀ (n u:Nat) (acc:List UInt8),u < 10 ^ (n+1)→n≤19→acc.length+n≤100→u < 18446744073709551616→
    lpO q1x (v,(u:Int),lit acc)=some (v,lit (Lib.decDigits u++acc)):=by
  intro n
  induction n with
  |zero=>
    intro u acc h hn ha hu
    have h:u < 10:=h
    rw [zC]
    unfold q1x
    have ed:Int.tdiv (u:Int) 10=((u / 10:Nat):Int):=rfl
    have e0:u / 10=0:=by omega
    have em:u % 10=u:=by omega
    dsimp only
    rw [zjh,ed,e0,zn,zc,zc,zr (by simp;omega),Lib.decDigits,dif_pos h,em]
    simp [IntKind.wrap,IntKind.bits,IntKind.signed]
  |succ n ih=>
    intro u acc h hn ha hu
    rw [zC]
    generalize hG:lpO q1x=G at ih ⊢
    unfold q1x
    have ed:Int.tdiv (u:Int) 10=((u / 10:Nat):Int):=rfl
    dsimp only
    rw [zjh,ed,zn,zc,zc,zr (by simp;omega),zmF (by omega),Lib.decDigits]
    by_cases hs:u < 10
    · have e0:u / 10=0:=by omega
      have em:u % 10=u:=by omega
      rw [dif_pos hs,e0,em]
      simp
    · have e0:¬ (((u / 10:Nat):Int)=0):=by omega
      rw [dif_neg hs,if_neg (by simpa using e0)]
      dsimp only [Option.bind_some]
      have hd:u / 10 < 10 ^ (n+1):=by
        rw [Nat.div_lt_iff_lt_mul (by omega)]
        rw [Nat.pow_succ] at h
        exact h
      rw [ih (u / 10) _ hd (by omega) (by simp;omega) (by omega)]
      simp
theorem zhy {v:Int}(h : -9223372036854775808≤v∧v≤9223372036854775807):qw v=some (lit (Lib.itoa v)):=by
  have hl:=Xy h
  unfold qw q4d
  by_cases hv:v < 0
  · have e:IntKind.u64.wrap (0 - IntKind.u64.wrap v)=((v.natAbs:Nat):Int):=by
      simp only [IntKind.wrap,IntKind.bits,IntKind.signed]
      simp
      omega
    have hd:=zeV (v:=v) 19 v.natAbs [] (by have:(10:Nat) ^ (19+1)=100000000000000000000:=by decide
                                           omega) (by omega) (by simp) (by omega)
    have hi:Lib.itoa v=45::Lib.decDigits v.natAbs:=by unfold Lib.itoa;rw [if_pos hv]
    rw [hi] at hl ⊢
    simp only [List.length_cons] at hl
    rw [if_pos (by simpa using hv),e,Option.bind_some]
    dsimp only
    rw [hd,Option.bind_some]
    dsimp only
    rw [if_pos (by simpa using hv),List.append_nil,zc,zr (by omega),zn]
    rfl
  · have e:IntKind.u64.wrap v=((v.toNat:Nat):Int):=by
      simp only [IntKind.wrap,IntKind.bits,IntKind.signed]
      simp
      omega
    have hd:=zeV (v:=v) 19 v.toNat [] (by have:(10:Nat) ^ (19+1)=100000000000000000000:=by decide
                                          omega) (by omega) (by simp) (by omega)
    have hi:Lib.itoa v=Lib.decDigits v.toNat:=by unfold Lib.itoa;rw [if_neg hv]
    rw [hi]
    rw [if_neg (by simpa using hv),e,Option.bind_some]
    dsimp only
    rw [hd,Option.bind_some]
    dsimp only
    rw [if_neg (by simpa using hv),List.append_nil]
theorem zfB (d:Nat):z6 (d+1)=z6 d++[32,32,32,32]:=by
 unfold z6
 rw [show 4 * (d+1)=4 * d+4 by omega,← List.replicate_append_replicate]
 rfl
theorem zhz {d:Nat}(hd:d≤30000):∀ (n i:Nat),n+i=d→lpO q1n ((d:Int),lit (z6 i),(i:Int))=some (lit (z6 d)):=by
 intro n
 induction n with
 |zero=>
  intro i hi
  have hi:i=d:=by omega
  subst hi
  rw [zC]
  unfold q1n
  simp
 |succ n ih=>
  intro i hi
  have ih:=ih (i+1) (by omega)
  rw [zfB] at ih
  have hl:=yj i
  rw [zC]
  generalize hG:lpO q1n=G at ih ⊢
  unfold q1n
  dsimp only
  rw [if_pos (by simp;omega),zc,zr (by omega),zn,Z1 (by omega)]
  exact ih
theorem zeW {d:Nat}(hd:d≤30000):q10 (d:Int)=some (lit (z6 d)):=by
 have h:=zhz hd d 0 (by omega)
 have h:lpO q1n ((d:Int),lit [],0)=_:=h
 unfold q10 q4u
 rw [h]
 rfl
end Go.Px
namespace Go.Px
set_option linter.unusedVariables false
set_option linter.unusedSimpArgs false
abbrev RNd:=qa
mutual
def toR:Nd→RNd
 |⟨k,t,v,p,ks⟩=>⟨k,t,v,p,zmG ks⟩
def zmG:Sl Nd→Sl RNd
 |⟨xs,_⟩=>mkS (zeX xs)
def zeX:List Nd→List RNd
 |[]=>[]
 |a::r=>toR a::zeX r
end
theorem zeY:∀ l:List Nd,zeX l=l.map toR
 |[]=>by simp [zeX]
 |a::r=>by simp [zeX,zeY r]
theorem WU (n:Nd):toR n=⟨n.Kind_,n.Text_,n.Num_,n.At_,mkS (n.Kids_.xs.map toR)⟩:=by
 obtain ⟨k,t,v,p,⟨xs,nn⟩⟩:=n
 simp [toR,zmG,zeY]
theorem zeZ {h:Nd→Option ((Int×ByteArray×Int×Int)×Sl RNd)}{s:Sl Nd}{z q:Int×ByteArray×Int×Int}(hk:∀ a∈s.xs,h a=some ((a.Kind_,a.Text_,a.Num_,a.At_),mkS (a.Kids_.xs.map toR))) (hlen:s.xs.length≤30000):∀ (n i:Nat),n+i=s.xs.length→
    lpO (q1e h) (s,s.len,(i:Int),z,q,mkS ((s.xs.take i).map toR))=some (z,q,mkS (s.xs.map toR)):=by
  intro n
  induction n with
  |zero=>
    intro i hi
    have hi:i=s.xs.length:=by omega
    subst hi
    rw [zC]
    unfold q1e
    dsimp only
    rw [if_neg (by simp [Sl.len]),List.take_length]
    rfl
  |succ n ih=>
    intro i hi
    obtain ⟨x,hx,hd⟩:=Zf.drop_cons' (l:=s.xs) (i:=i) (by omega)
    have ih:=ih (i+1) (by omega)
    rw [Yb.take_succ'' hx] at ih
    rw [zC]
    generalize hG:lpO (q1e h)=G at ih ⊢
    unfold q1e
    dsimp only
    rw [if_pos (by simp [Sl.len];omega),yz,hx,Option.bind_some,zS,hk x (List.mem_of_getElem? hx),Option.bind_some,xV (by simp [mkS];omega) (by simp [mkS];omega),Option.bind_some,Z1 (by omega)]
    dsimp only [Option.bind_some]
    rw [← ih]
    have ne:∀ (l:List RNd) (y:RNd),(l++[y]).isEmpty=false:=fun l y=>by cases l <;> rfl
    simp [mkS,WU x,ne]
theorem zfC:∀ (f:Nat) (n:Nd),z7 n≤f→z7 n≤5000→q16 f n=some ((n.Kind_,n.Text_,n.Num_,n.At_),mkS (n.Kids_.xs.map toR)):=by
 intro f
 induction f with
 |zero=>intro n h;have:=zo n;omega
 |succ f ih=>
  intro n hf hs
  have e:=zo n
  have hl:=vM n.Kids_.xs
  have hlp:=zeZ (h:=q16 f) (s:=n.Kids_) (z:=(0,lit [],0,0)) (q:=(n.Kind_,n.Text_,n.Num_,n.At_)) (fun a ha=>by
   have:=yC ha
   exact ih a (by omega) (by omega)) (by omega) n.Kids_.xs.length 0 (by omega)
  have hlp:lpO (q1e (q16 f)) (n.Kids_,n.Kids_.len,0,(0,lit [],0,0),(n.Kind_,n.Text_,n.Num_,n.At_),Sl.mk [] false)=_:=hlp
  show q1f (q16 f) n=_
  unfold q1f
  rw [hlp]
  rfl
end Go.Px
namespace Go.Px
set_option linter.unusedVariables false
set_option linter.unusedSimpArgs false
theorem Y0 (n:Nd):(toR n).Kind_=n.Kind_:=by rw [WU]
theorem zkq (n:Nd):(toR n).Text_=n.Text_:=by rw [WU]
theorem zkr (n:Nd):(toR n).Kids_.xs=n.Kids_.xs.map toR:=by rw [WU];rfl
theorem xj {l:List Nd}{b:Bool}(i:Nat):zk (⟨l.map toR,b⟩:Sl RNd) (i:Int)=(l[i]?).map toR:=by
 rw [yz];simp
theorem YM {l:List Nd}{b:Bool}:Sl.len (⟨l.map toR,b⟩:Sl RNd)=(l.length:Int):=by simp [Sl.len]
theorem zcR (l:List Nd) (b:Bool) (k:Int) (h:l.length≤30000):q4g (⟨l.map toR,b⟩,k)=some (Ws k l):=by
 have hl:=Zf (f:=q2n) (xs:=l) (p:=fun n=>decide (n.Kind_=k)) (fun i=>((⟨l.map toR,b⟩:Sl RNd),k,(i:Int)))
  (fun i c hc=>by
   have hi:i < l.length:=(List.getElem?_eq_some_iff.1 hc).1
   unfold q2n
   dsimp only
   rw [if_pos (by rw [YM];simp;omega),xj,hc,Option.map_some,Option.bind_some,Z1 (by omega),Y0]
   by_cases e:c.Kind_=k
   ·simp [e]
   ·simp [e])
  (by
   unfold q2n
   dsimp only
   rw [if_neg (by rw [YM];simp)])
 have hl:lpO q2n (⟨l.map toR,b⟩,k,0)=_:=hl
 unfold q4g q5e
 dsimp only
 rw [hl]
 unfold Ws
 cases List.all l fun n=>decide (n.Kind_=k) <;> rfl
theorem zji (k v p:Int) (t:ByteArray) (l:List Nd) (b:Bool) (w:Sl Int) (h:l.length≤30000):q3q (⟨k,t,v,p,⟨l.map toR,b⟩⟩,w)=some (decide (kK l=w.xs)):=by
 unfold q3q q4v
 dsimp only
 by_cases hl:l.length=w.xs.length
 ·have e:¬ (Sl.len (⟨l.map toR,b⟩:Sl RNd)≠Sl.len w):=by rw [YM];simp [Sl.len,hl]
  have hz:(l.zip w.xs).length=l.length:=by simp [hl]
  have hlp:=Zf (f:=q27) (xs:=l.zip w.xs) (p:=fun c=>decide (c.1.Kind_=c.2)) (fun i=>(w,(i:Int),k,t,v,p,(⟨l.map toR,b⟩:Sl RNd)))
   (fun i c hc=>by
    obtain ⟨h1,h2⟩:=zga hc
    have hi:i < l.length:=(List.getElem?_eq_some_iff.1 h1).1
    unfold q27
    dsimp only
    rw [if_pos (by simp [Sl.len];omega),xj,h1,Option.map_some,Option.bind_some,yz,h2,Option.bind_some,Z1 (by omega),Y0]
    by_cases e:c.1.Kind_=c.2
    ·simp [e]
    ·simp [e])
   (by
    unfold q27
    dsimp only
    rw [hz,if_neg (by simp [Sl.len];omega)])
  have hlp:lpO q27 (w,0,k,t,v,p,(⟨l.map toR,b⟩:Sl RNd))=_:=hlp
  rw [if_neg (by simpa using e),hlp,zcO _ _ hl]
  by_cases q:kK l=w.xs
  ·simp [q]
  ·simp [q]
 ·have e:Sl.len (⟨l.map toR,b⟩:Sl RNd)≠Sl.len w:=by rw [YM];simp only [Sl.len];omega
  rw [if_pos (by simpa using e)]
  have:¬ kK l=w.xs:=fun q=>hl (by rw [← q];simp [kK])
  simp [this]
theorem ze0 {k v p:Int}{t:ByteArray}{l:List Nd}{b:Bool}(h:l.length≤30000):∀ (n i:Nat),l.length≤i+n→i≤30001→
    lpO q1a ((i:Int),k,t,v,p,(⟨l.map toR,b⟩:Sl RNd))=some ((i+zH (l.drop i):Nat):Int):=by
  intro n
  induction n with
  |zero=>
    intro i hi _
    rw [zC]
    unfold q1a
    dsimp only
    rw [if_neg (by rw [YM];simp;omega),List.drop_eq_nil_of_le (by omega)]
    simp [zH]
  |succ n ih=>
    intro i hi h1
    by_cases hlt:i < l.length
    · obtain ⟨c,hc,hd⟩:=Zf.drop_cons' (l:=l) (i:=i) hlt
      have ih:=ih (i+1) (by omega) (by omega)
      rw [zC]
      generalize hG:lpO q1a=G at ih ⊢
      unfold q1a
      dsimp only
      rw [if_pos (by rw [YM];simp;omega),xj,hc,Option.map_some,Option.bind_some,Option.bind_some,Y0,hd]
      dsimp only
      rw [Z1 (by omega)]
      by_cases e:c.Kind_=3
      · rw [if_pos (by simpa using e)]
        dsimp only [Option.bind_some]
        rw [ih]
        simp only [zH,e,if_true]
        congr 2;omega
      · rw [if_neg (by simpa using e)]
        simp only [zH,e,if_false,Option.bind_some]
        simp
    · rw [zC]
      unfold q1a
      dsimp only
      rw [if_neg (by rw [YM];simp;omega),List.drop_eq_nil_of_le (by omega)]
      simp [zH]
theorem zca (k v p:Int) (t:ByteArray) (l:List Nd) (b:Bool) (h:l.length≤30000):qn ⟨k,t,v,p,⟨l.map toR,b⟩⟩=some (zH l.tail:Int):=by
 have hl:=ze0 (k:=k) (v:=v) (p:=p) (t:=t) (b:=b) h 30000 1 (by omega) (by omega)
 have hl:lpO q1a (1,k,t,v,p,(⟨l.map toR,b⟩:Sl RNd))=_:=hl
 have:=wq (l.drop 1)
 rw [List.length_drop] at this
 unfold qn q4h
 dsimp only
 rw [hl,Option.bind_some,List.drop_one] at *
 rw [ZD (by omega) (by omega)]
 congr 1
 omega
theorem zhA {a b c k v p} {t:ByteArray}{l:List Nd}{nn:Bool}(h:l.length≤30000):lpO (q2o a b c) ((l.length:Int) - 1,0,k,t,v,p,(⟨l.map toR,nn⟩:Sl RNd))=some (if (l.all fun n=>decide (n.Kind_=1) || decide (n.Kind_=6))=true then .inr () else .inl false):=by
 refine Zf (f:=q2o a b c) (xs:=l) (fun i=>((l.length:Int) - 1,(i:Int),k,t,v,p,(⟨l.map toR,nn⟩:Sl RNd))) (fun i c hc=>?_) ?_
 ·have hi:i < l.length:=(List.getElem?_eq_some_iff.1 hc).1
  unfold q2o
  dsimp only
  rw [if_pos (by simp;omega),xj,hc,Option.map_some,Option.bind_some,Option.bind_some,Y0]
  by_cases e:c.Kind_=1
  ·simp [e,Z1 (show i < 9000000000000000000 by omega)]
  ·by_cases e6:c.Kind_=6
   ·simp [e6,Z1 (show i < 9000000000000000000 by omega)]
   ·simp [e,e6]
 ·unfold q2o
  dsimp only
  rw [if_neg (by simp;omega)]
theorem zhB {a b c k v p} {t:ByteArray}{l:List Nd}{nn:Bool}(h:l.length≤30000):lpO (q2p a b c) ((l.length:Int) - 1,0,k,t,v,p,(⟨l.map toR,nn⟩:Sl RNd))=some (if (l.all fun n=>Yy n.Kind_)=true then .inr () else .inl false):=by
 refine Zf (f:=q2p a b c) (xs:=l) (fun i=>((l.length:Int) - 1,(i:Int),k,t,v,p,(⟨l.map toR,nn⟩:Sl RNd))) (fun i c hc=>?_) ?_
 ·have hi:i < l.length:=(List.getElem?_eq_some_iff.1 hc).1
  unfold q2p
  dsimp only
  rw [if_pos (by simp;omega),xj,hc,Option.map_some,Option.bind_some,Option.bind_some,Y0]
  unfold Yy
  by_cases e:c.Kind_ < 10
  ·have:¬ 10≤c.Kind_:=by omega
   simp [e,this]
  ·have e1:10≤c.Kind_:=by omega
   by_cases e2:20 < c.Kind_
   ·have:¬ c.Kind_≤20:=by omega
    simp [e,e1,e2,this]
   ·have:c.Kind_≤20:=by omega
    simp [e,e1,e2,this,Z1 (show i < 9000000000000000000 by omega)]
 ·unfold q2p
  dsimp only
  rw [if_neg (by simp;omega)]
theorem Xk {l:List Nd}(h:l.length≤30000):(l.length:Int) - 1 < 0↔kK l=[]:=by
 cases l with
 |nil=>simp [kK]
 |cons a l=>simp [kK]
theorem zlK (k v p:Int) (t:ByteArray) (l:List Nd) (nn:Bool) (h:l.length≤30000):q17 ⟨k,t,v,p,⟨l.map toR,nn⟩⟩=some (yn k l):=by
 have w1:IntKind.i64.wrap ((l.length:Int) - 1)=(l.length:Int) - 1:=ZD (by omega) (by omega)
 unfold q17 q5f
 dsimp only
 rw [YM,w1]
 rcases XM k with hk | hk
 ·rcases hk with rfl | rfl | rfl | rfl | rfl | rfl | rfl | rfl | rfl | rfl | rfl | rfl | rfl | rfl | rfl | rfl | rfl | rfl | rfl | rfl | rfl | rfl | rfl | rfl | rfl | rfl | rfl | rfl | rfl
  ·simp only [zhA h]
   unfold yn
   simp [YO]
   split <;> simp_all
  all_goals simp [zcR,zji,zhB h,h,yn,YO]
  ·cases l with
   |nil=>simp
   |cons a l=>
    have hlt:=wq l
    simp only [List.length_cons] at h
    have w2:IntKind.i64.wrap (1+(zH l:Int))=((1+zH l:Nat):Int):=by rw [ZD (by omega) (by omega)];simp
    have hg:=yK (⟨(a::l).map toR,nn⟩:Sl RNd) (i:=1+zH l) (j:=l.length+1) (by omega) (by simp)
    have ht:(((a::l).map toR).take (l.length+1)).drop (1+zH l)=(l.drop (zH l)).map toR:=by
     rw [List.take_of_length_le (by simp),Nat.add_comm 1,← List.map_drop,List.drop_succ_cons]
    have hg0:zk (⟨(a::l).map toR,nn⟩:Sl RNd) 0=some (toR a):=xj (l:=a::l) 0
    have hall:=zcR (l.drop (zH l)) nn 4 (by rw [List.length_drop];omega)
    have hf:=zca 1 v p t (a::l) nn (by simp;omega)
    simp only [ht] at hg
    rw [if_neg (by simp),hf,Option.bind_some]
    simp only [List.tail_cons,List.length_cons,w2]
    rw [show ((l.length+1:Nat):Int)=(((l.length+1:Nat)):Int) from rfl,hg,Option.bind_some,hall,Option.bind_some,hg0,Option.bind_some,Y0]
    by_cases e:a.Kind_=2
    ·simp [e]
    ·simp [e]
  ·by_cases hl:l.length < 2
   ·have:(l.length:Int) - 1 < 1:=by omega
    simp [this,hl]
   ·have:¬ (l.length:Int) - 1 < 1:=by omega
    simp [this,hl]
  ·by_cases hl:l.length < 2
   ·have:(l.length:Int) - 1 < 1:=by omega
    simp [this,hl]
   ·have:¬ (l.length:Int) - 1 < 1:=by omega
    simp [this,hl]
  ·exact Xk h
  ·by_cases hl:l.length < 2
   ·have e1:(l.length:Int) - 1 < 1:=by omega
    have e2:¬ 2≤l.length:=by omega
    simp [e1,e2]
   ·obtain ⟨i,hi⟩:∃ i,l.length=i+2:=⟨l.length - 2,by omega⟩
    obtain ⟨x,hx,hd⟩:=Zf.drop_cons' (l:=l) (i:=i) (by omega)
    obtain ⟨y,hy,hd2⟩:=Zf.drop_cons' (l:=l) (i:=i+1) (by omega)
    have hd3:l.drop (i+1+1)=[]:=List.drop_eq_nil_of_le (by omega)
    rw [hd2,hd3] at hd
    have w2:IntKind.i64.wrap (((i+2:Nat):Int) - 1 - 1)=(i:Int):=by rw [ZD (by omega) (by omega)];omega
    have hg:=yK (⟨l.map toR,nn⟩:Sl RNd) (i:=0) (j:=i) (by omega) (by simp;omega)
    have ht:((l.map toR).take i).drop 0=(l.take i).map toR:=by rw [List.drop_zero,List.map_take]
    simp only [ht] at hg
    have hg:zD (⟨l.map toR,nn⟩:Sl RNd) 0 (i:Int)=_:=hg
    have hall:=zcR (l.take i) nn 7 (by rw [List.length_take];omega)
    have gx:zk (⟨l.map toR,nn⟩:Sl RNd) (i:Int)=some (toR x):=by rw [xj,hx];rfl
    have gy:zk (⟨l.map toR,nn⟩:Sl RNd) (((i+2:Nat):Int) - 1)=some (toR y):=by
     rw [show (((i+2:Nat):Int) - 1)=((i+1:Nat):Int) by omega,xj,hy];rfl
    rw [hi,if_neg (by omega),w2,hg,Option.bind_some,hall,Option.bind_some,show i+2 - 2=i by omega,hd]
    cases ea:Ws 7 (l.take i) with
    |false=>simp
    |true=>
     simp only [if_true,gx,gy,Option.bind_some,Y0]
     by_cases e:x.Kind_=8
     ·by_cases e2:y.Kind_=9
      ·simp [e,e2,kK]
      ·simp [e,e2,kK]
     ·simp [e,kK]
  ·by_cases hl:l.length < 2
   ·have:(l.length:Int) - 1 < 1:=by omega
    simp [this,hl]
   ·have:¬ (l.length:Int) - 1 < 1:=by omega
    simp [this,hl]
  ·by_cases q:∀ x∈l,Yy x.Kind_=true
   ·have e:(l.all fun n=>Yy n.Kind_)=true:=by simpa using q
    rw [if_pos q,e];rfl
   ·have e:(l.all fun n=>Yy n.Kind_)=false:=by
     cases e:l.all fun n=>Yy n.Kind_ with
     |false=>rfl
     |true=>exact absurd (by simpa using e) q
    rw [if_neg q,e];rfl
  ·match l with
   |[]=>rfl
   |[a]=>
    have hg0:zk (⟨[a].map toR,nn⟩:Sl RNd) 0=some (toR a):=xj (l:=[a]) 0
    rw [if_pos (by simp),hg0,Option.bind_some,Y0]
    unfold Xj
    by_cases e:a.Kind_=5
    ·simp [e]
    ·by_cases e2:21≤a.Kind_ <;> simp [e,e2]
   |a::b::l=>
    rw [if_neg (by simp;omega)];rfl
  ·exact Xk h
  ·exact Xk h
  ·exact Xk h
  ·by_cases hl:l.length < 2
   ·have:(l.length:Int) - 1 < 1:=by omega
    simp [this,hl]
   ·have:¬ (l.length:Int) - 1 < 1:=by omega
    simp [this,hl]
  ·exact Xk h
  ·exact Xk h
  ·exact Xk h
  ·exact Xk h
  ·exact Xk h
 ·have n:∀ c:Int,0≤c→c≤28→¬ k=c:=fun c h0 h1 e=>by omega
  rw [zay hk]
  simp [n]
end Go.Px
namespace Go.Px
set_option linter.unusedVariables false
set_option linter.unusedSimpArgs false
abbrev RhF:=RNd×Int→Option ByteArray
structure KR (h:RhF) (l:List Nd) (d:Nat):Prop where
 len:l.length≤30000
 kid:∀ a∈l,h (toR a,(d:Int))=some (lit (shN a d))
 sm:(l.map fun a=>(shN a d).length).sum≤1099511627776
theorem Xl (a:RNd):qa.mk a.Kind_ a.Text_ a.Num_ a.At_ a.Kids_=a:=by cases a;rfl
theorem KR.one {h:RhF}{l:List Nd}{d:Nat}(K:KR h l d) {a:Nd}(ha:a∈l):(shN a d).length≤1099511627776:=
 Nat.le_trans (zeR _ _ (List.mem_map.2 ⟨a,ha,rfl⟩)) K.sm
theorem KR.take {h:RhF}{l:List Nd}{d:Nat}(K:KR h l d) (i:Nat):KR h (l.take i) d where
 len:=by have:=K.len;rw [List.length_take];omega
 kid:=fun a ha=>K.kid a (List.mem_of_mem_take ha)
 sm:=by
  have h1:=vL (l.map fun a=>(shN a d).length) i
  rw [← List.map_take] at h1
  exact Nat.le_trans h1 K.sm
theorem KR.drop {h:RhF}{l:List Nd}{d:Nat}(K:KR h l d) (i:Nat):KR h (l.drop i) d where
 len:=by have:=K.len;rw [List.length_drop];omega
 kid:=fun a ha=>K.kid a (List.mem_of_mem_drop ha)
 sm:=by
  have h1:=zeQ (l.map fun a=>(shN a d).length) i
  rw [← List.map_drop] at h1
  exact Nat.le_trans h1 K.sm
theorem zjj (l:List (List UInt8)) (y:List UInt8):Z4 (l++[y])=(if l=[] then [] else Z4 l++[44,32])++y:=by
 unfold Z4 wR
 cases l with
 |nil=>rw [if_pos rfl,List.nil_append,Lib.join_one];rfl
 |cons a l=>
  rw [if_neg (by simp),List.cons_append,Lib.join_cons,Lib.join_cons]
  simp [Lib.joinTail]
theorem x3 {h:RhF}{l:List Nd}{d:Nat}(K:KR h l d):(Z4 (l.map fun a=>shN a d)).length≤1099511687776:=by
 have h1:=wS [44,32] (l.map fun a=>shN a d)
 have h2:=K.sm
 have h3:=K.len
 rw [List.map_map,List.length_map] at h1
 have e:(List.map (List.length ∘ fun a=>shN a d) l).sum=(l.map fun a=>(shN a d).length).sum:=rfl
 rw [e] at h1
 simp only [List.length_cons,List.length_nil] at h1
 unfold Z4 wR
 omega
theorem zhC {h:RhF}{l:List Nd}{b:Bool}{d:Nat}(K:KR h l d):∀ (n i:Nat),n+i=l.length→
    lpO (q1o h) ((⟨l.map toR,b⟩:Sl RNd),(d:Int),lit (Z4 ((l.take i).map fun a=>shN a d)),(i:Int))=some (lit (Z4 (l.map fun a=>shN a d))):=by
  intro n
  induction n with
  |zero=>
    intro i hi
    have hi:i=l.length:=by omega
    subst hi
    rw [zC]
    unfold q1o
    dsimp only
    rw [if_neg (by rw [YM];simp),List.take_length]
    rfl
  |succ n ih=>
    intro i hi
    obtain ⟨x,hx,hdr⟩:=Zf.drop_cons' (l:=l) (i:=i) (by omega)
    have hlen:=K.len
    have l1:=K.one (List.mem_of_getElem? hx)
    have l2:=x3 (K.take i)
    have ih:=ih (i+1) (by omega)
    rw [Yb.take_succ'' hx,List.map_append,List.map_cons,List.map_nil,zjj] at ih
    have hk:=K.kid x (List.mem_of_getElem? hx)
    rw [zC]
    generalize hG:lpO (q1o h)=G at ih ⊢
    unfold q1o
    dsimp only
    rw [if_pos (by rw [YM];simp;omega)]
    by_cases h0:i=0
    · subst h0
      rw [if_neg (by simp),Option.bind_some]
      dsimp only
      rw [xj,hx,Option.map_some,Option.bind_some,Xl,hk,Option.bind_some]
      have e0:Z4 (List.map (fun a=>shN a d) (l.take 0))=[]:=rfl
      rw [e0,zc,zc,zr (by simp;omega),zn,Z1 (by omega)]
      simp only [List.take_zero,List.map_nil,if_true] at ih
      exact ih
    · rw [if_pos (by simp;omega),zc,zr (by omega),Option.bind_some]
      dsimp only
      rw [xj,hx,Option.map_some,Option.bind_some,Xl,hk,Option.bind_some,zn,zc,zc,zr (by simp only [List.length_append,List.length_cons,List.length_nil];omega),zn,Z1 (by omega)]
      have hne:¬ (l.take i).map (fun a=>shN a d)=[]:=by
        intro e
        have:=congrArg List.length e
        rw [List.length_map,List.length_take] at this
        simp only [List.length_nil] at this
        omega
      rw [if_neg hne] at ih
      exact ih
theorem wV {h:RhF}{l:List Nd}{b:Bool}{d:Nat}(K:KR h l d):qk h ((⟨l.map toR,b⟩:Sl RNd),(d:Int))=some (lit (Z4 (l.map fun a=>shN a d))):=by
 have hl:=zhC (b:=b) K l.length 0 (by omega)
 have hl:lpO (q1o h) ((⟨l.map toR,b⟩:Sl RNd),(d:Int),lit [],0)=_:=hl
 unfold qk q2d
 dsimp only
 rw [hl];rfl
theorem zjk {h:RhF}{k v p:Int}{t:ByteArray}{l:List Nd}{b:Bool}{d:Nat}(K:KR h l d):qi h (⟨k,t,v,p,⟨l.map toR,b⟩⟩,(d:Int))=some (lit (at0 (l.map fun a=>shN a d) 0)):=by
 unfold qi q28
 dsimp only
 rw [YM]
 cases l with
 |nil=>rfl
 |cons a l=>
  have hg:zk (⟨(a::l).map toR,b⟩:Sl RNd) 0=some (toR a):=xj (l:=a::l) 0
  rw [if_neg (by simp;omega),hg,Option.bind_some,Xl,K.kid a (by simp)]
  rfl
theorem Xz {h:RhF}{l:List Nd}{d:Nat}(K:KR h l d) (i:Nat):(at0 (l.map fun a=>shN a d) i).length≤1099511627776:=by
 unfold at0
 rw [List.getD_eq_getElem?_getD,List.getElem?_map]
 cases e:l[i]? with
 |none=>simp
 |some a=>exact K.one (List.mem_of_getElem? e)
theorem ze1 {h:RhF}{l:List Nd}{b:Bool}{d:Nat}(K:KR h l d) {i:Nat}(hi:i < l.length):∃ a,l[i]?=some a∧zk (⟨l.map toR,b⟩:Sl RNd) (i:Int)=some (toR a)∧h (toR a,(d:Int))=some (lit (at0 (l.map fun a=>shN a d) i)):=by
 have hg:=List.getElem?_eq_getElem hi
 refine ⟨l[i],hg,by rw [xj,hg];rfl,?_⟩
 rw [K.kid _ (List.getElem_mem hi)]
 unfold at0
 rw [List.getD_eq_getElem?_getD,List.getElem?_map,hg]
 rfl
theorem zhD {h:RhF}{l:List Nd}{b:Bool}{d:Nat}{k v p:Int}{t:ByteArray}(K:KR h l d) {a1 a2 a3 a4 a5 a6}:∀ (n i:Nat),n+i=l.length→
    lpO (q1p a1 a2 h a3 a4 a5 a6) ((d:Int),lit (YP d (l.take i)),(i:Int),k,t,v,p,(⟨l.map toR,b⟩:Sl RNd))=some (lit (YP d l)):=by
  intro n
  induction n with
  |zero=>
    intro i hi
    have hi:i=l.length:=by omega
    subst hi
    rw [zC]
    unfold q1p
    dsimp only
    rw [if_neg (by rw [YM];simp),List.take_length]
    rfl
  |succ n ih=>
    intro i hi
    obtain ⟨x,hx,hdr⟩:=Zf.drop_cons' (l:=l) (i:=i) (by omega)
    have hlen:=K.len
    have l1:=K.one (List.mem_of_getElem? hx)
    have l2:=V2 (d:=d) (l.take i)
    have h1:=(K.take i).sm
    have l3:=(K.take i).len
    have ih:=ih (i+1) (by omega)
    have hap:YP d (l.take (i+1))=YP d (l.take i)++(shN x d++[10]):=by
      rw [Yb.take_succ'' hx]
      simp [YP]
    rw [hap] at ih
    have hk:=K.kid x (List.mem_of_getElem? hx)
    rw [zC]
    generalize hG:lpO (q1p a1 a2 h a3 a4 a5 a6)=G at ih ⊢
    unfold q1p
    dsimp only
    rw [if_pos (by rw [YM];simp;omega),xj,hx,Option.map_some,Option.bind_some,Xl,hk,Option.bind_some,zn,zc,zc,zc,zr (by omega),zr (by simp;omega),zn,Z1 (by omega),List.append_assoc]
    exact ih
def vP (d:Nat) (l:List Nd):List UInt8:=(l.map fun a=>z6 (d+1)++shN a (d+1)++[10]).flatten
theorem zbd {d:Nat}:∀ l:List Nd,(vP d l).length=(l.map fun a=>(shN a (d+1)).length).sum+(4 * (d+1)+1) * l.length
 |[]=>by simp [vP]
 |a::l=>by
  have ih:=zbd (d:=d) l
  unfold vP at ih ⊢
  have e:(4 * (d+1)+1) * (l.length+1)=(4 * (d+1)+1) * l.length+(4 * (d+1)+1):=Nat.mul_succ _ _
  rw [List.map_cons,List.flatten_cons,List.length_append,ih,List.map_cons,List.sum_cons,List.length_cons,e]
  simp only [List.length_append,List.length_cons,List.length_nil,yj]
  omega
theorem zfD {h:RhF}{l:List Nd}{b:Bool}{d:Nat}{k v p:Int}{t:ByteArray}(K:KR h l (d+1)) (hd:d < 30000) {a1 a2 a3 a4 a5 a6}:∀ (n i:Nat),n+i=l.length→
    lpO (q1q a1 a2 h a3 a4 a5 a6) ((d:Int),lit ([123,10]++vP d (l.take i)),lit (z6 (d+1)),(i:Int),k,t,v,p,(⟨l.map toR,b⟩:Sl RNd))=some ((d:Int),lit ([123,10]++vP d l)):=by
  intro n
  induction n with
  |zero=>
    intro i hi
    have hi:i=l.length:=by omega
    subst hi
    rw [zC]
    unfold q1q
    dsimp only
    rw [if_neg (by rw [YM];simp),List.take_length]
    rfl
  |succ n ih=>
    intro i hi
    obtain ⟨x,hx,hdr⟩:=Zf.drop_cons' (l:=l) (i:=i) (by omega)
    have hlen:=K.len
    have l1:=K.one (List.mem_of_getElem? hx)
    have l2:=zbd (d:=d) (l.take i)
    have h1:=(K.take i).sm
    have l3:=(K.take i).len
    have l4:(4 * (d+1)+1) * (l.take i).length≤200000 * 30000:=Nat.mul_le_mul (by omega) l3
    have l5:=yj (d+1)
    have ih:=ih (i+1) (by omega)
    have hap:vP d (l.take (i+1))=vP d (l.take i)++(z6 (d+1)++shN x (d+1)++[10]):=by
      rw [Yb.take_succ'' hx]
      simp [vP]
    rw [hap] at ih
    have hk:=K.kid x (List.mem_of_getElem? hx)
    have hk:h (toR x,((d:Int)+1))=some (lit (shN x (d+1))):=by rw [← hk];simp
    rw [zC]
    generalize hG:lpO (q1q a1 a2 h a3 a4 a5 a6)=G at ih ⊢
    unfold q1q
    dsimp only
    rw [if_pos (by rw [YM];simp;omega),xj,hx,Option.map_some,Option.bind_some,Xl,show IntKind.i64.wrap ((d:Int)+1)=(d:Int)+1 from ZD (by omega) (by omega),hk,Option.bind_some]
    simp (disch:=((try simp only [zc,List.length_append,List.length_cons,List.length_nil]);omega)) only [zr,zt,zn,zc,Option.bind_some]
    rw [Z1 (by omega)]
    simp only [List.append_assoc] at ih ⊢
    exact ih
end Go.Px
namespace Go.Px
set_option linter.unusedVariables false
set_option linter.unusedSimpArgs false
theorem zhE {h:RhF}{l:List Nd}{b:Bool}{d:Nat}(K:KR h l d) {k v p:Int}{t A:ByteArray}:(if decide (1 < Sl.len (⟨l.map toR,b⟩:Sl RNd))=true then
      (zk (⟨l.map toR,b⟩:Sl RNd) 1).bind fun (y2:qa)=>
        (h (qa.mk y2.Kind_ y2.Text_ y2.Num_ y2.At_ y2.Kids_,(d:Int))).bind fun (y3:ByteArray)=>
          some ((d:Int),A,y3,k,t,v,p,(⟨l.map toR,b⟩:Sl RNd))
    else some ((d:Int),A,lit [],k,t,v,p,(⟨l.map toR,b⟩:Sl RNd)))=some ((d:Int),A,lit (at0 (l.map fun a=>shN a d) 1),k,t,v,p,(⟨l.map toR,b⟩:Sl RNd)):=by
  rw [YM]
  match l,K with
  |[],K=>rfl
  |[a],K=>rfl
  |a::c::l,K=>
    have hg:zk (⟨(a::c::l).map toR,b⟩:Sl RNd) 1=some (toR c):=xj (l:=a::c::l) 1
    rw [if_pos (by simp;omega),hg,Option.bind_some,Xl,K.kid c (by simp),Option.bind_some]
    rfl
theorem zhF {h:RhF}{k v p:Int}{t:List UInt8}{l:List Nd}{b:Bool}{d:Nat}(K:KR h l d) (K':KR h l (d+1)) (hd:d < 30000) (ht:t.length≤1048576) (hv : -9223372036854775808≤v∧v≤9223372036854775807) :
    q1r h (⟨k,lit t,v,p,⟨l.map toR,b⟩⟩,(d:Int))=some (lit (shN ⟨k,lit t,v,p,⟨l,b⟩⟩ d)):=by
  have la:=Xz K 0
  have lb:=Xz K 1
  have li:=Xy hv
  rw [V0]
  dsimp only
  rw [ZP]
  unfold q1r q2e
  dsimp only
  rw [zlK _ _ _ _ _ _ K.len,Option.bind_some]
  unfold shG
  by_cases hf:yn k l=true
  case neg=>
    have hf:yn k l=false:=by cases e:yn k l <;> simp_all
    rw [hf]
    rfl
  rw [hf,if_pos rfl,if_neg (show ¬ ((!true)=true) by decide),zjk K,Option.bind_some,zhE K,Option.bind_some]
  dsimp only
  rw [zhy hv,Option.bind_some]
  generalize hA:at0 (l.map fun a=>shN a d) 0=A at la ⊢
  generalize hB:at0 (l.map fun a=>shN a d) 1=B at lb ⊢
  generalize hI:Lib.itoa v=I at li ⊢
  rcases XM k with hk | hk
  case inr=>rw [zay hk] at hf;cases hf
  unfold shB
  rw [hA,hB,hI]
  rcases hk with rfl | rfl | rfl | rfl | rfl | rfl | rfl | rfl | rfl | rfl | rfl | rfl | rfl | rfl | rfl | rfl | rfl | rfl | rfl | rfl | rfl | rfl | rfl | rfl | rfl | rfl | rfl | rfl | rfl
  all_goals try (simp (disch:=((try simp only [zc,List.length_append,List.length_cons,List.length_nil]);omega)) [zr,zt,zn,zc];done)
  · have hU:=zhD (b:=b) (k:=0) (v:=v) (p:=p) (t:=lit t) K (a1:=q17) (a2:=qi h) (a3:=qw) (a4:=qn) (a5:=qk h) (a6:=q10) l.length 0 (by omega)
    have hU:lpO (q1p q17 (qi h) h qw qn (qk h) q10) ((d:Int),lit [],0,0,lit t,v,p,(⟨l.map toR,b⟩:Sl RNd))=_:=hU
    simp [hU,YP,Function.comp_def]
  · have hne:∃ a r,l=a::r:=by
      cases l with
      |nil=>cases hf
      |cons a r=>exact ⟨a,r,rfl⟩
    obtain ⟨a,r,rfl⟩:=hne
    have hF:=zca 1 v p (lit t) (a::r) b K.len
    obtain ⟨f,hf0⟩:∃ f,zH r=f:=⟨_,rfl⟩
    have hfl:=wq r
    have hkl:=K.len
    rw [List.tail_cons,hf0] at hF
    rw [List.length_cons] at hkl
    have K1:=(K.drop 1).take f
    have K2:=(K.drop 1).drop f
    simp only [List.drop_succ_cons,List.drop_zero] at K1 K2
    have w1:IntKind.i64.wrap (1+(f:Int))=1+(f:Int):=by rw [ZD (by omega) (by omega)]
    have hg1:zD (⟨(a::r).map toR,b⟩:Sl RNd) 1 (1+(f:Int))=some ⟨(r.take f).map toR,b⟩:=by
      have:=yK (⟨(a::r).map toR,b⟩:Sl RNd) (i:=1) (j:=f+1) (by omega) (by simp;omega)
      rw [show ((f+1:Nat):Int)=1+(f:Int) by omega] at this
      rw [show (1:Int)=((1:Nat):Int) from rfl] at *
      rw [this]
      simp [List.map_take]
    have hg2:zD (⟨(a::r).map toR,b⟩:Sl RNd) (1+(f:Int)) ((r.length:Int)+1)=some ⟨(r.drop f).map toR,b⟩:=by
      have:=yK (⟨(a::r).map toR,b⟩:Sl RNd) (i:=f+1) (j:=r.length+1) (by omega) (by simp)
      rw [show ((f+1:Nat):Int)=1+(f:Int) by omega,show ((r.length+1:Nat):Int)=(r.length:Int)+1 by omega] at this
      rw [this]
      simp only [Option.some.injEq,Sl.mk.injEq,and_true]
      rw [List.take_of_length_le (by simp),List.map_cons,List.drop_succ_cons,List.map_drop]
    have hl2:Sl.len (⟨(a::r).map toR,b⟩:Sl RNd)=(r.length:Int)+1:=by rw [YM];simp
    have hL1:=wV (b:=b) K1
    have hL2:=wV (b:=b) K2
    have l1:=x3 K1
    have l2:=x3 K2
    have e1:((((a::r).map fun a=>shN a d).drop 1).take (zH (a::r).tail))=(r.take f).map fun a=>shN a d:=by
      rw [List.tail_cons,hf0,List.map_cons,List.drop_succ_cons,List.drop_zero,List.map_take]
    have e2:(((a::r).map fun a=>shN a d).drop (1+zH (a::r).tail))=(r.drop f).map fun a=>shN a d:=by
      rw [List.tail_cons,hf0,Nat.add_comm,List.map_cons,List.drop_succ_cons,List.map_drop]
    rw [e1,e2,List.tail_cons,hf0]
    generalize Z4 ((r.take f).map fun a=>shN a d)=C1 at hL1 l1 ⊢
    generalize Z4 ((r.drop f).map fun a=>shN a d)=C2 at hL2 l2 ⊢
    generalize (⟨(r.take f).map toR,b⟩:Sl RNd)=S1 at hL1 hg1 ⊢
    generalize (⟨(r.drop f).map toR,b⟩:Sl RNd)=S2 at hL2 hg2 ⊢
    generalize (⟨(a::r).map toR,b⟩:Sl RNd)=S at hF hg1 hg2 hl2 ⊢
    rw [List.length_cons]
    by_cases p1:0 < f
    · have p1':(0:Int) < (f:Int):=by omega
      by_cases p2:1+f < r.length+1
      · have p2':1+(f:Int) < (r.length:Int)+1:=by omega
        simp (disch:=((try simp only [zc,List.length_append,List.length_cons,List.length_nil]);omega)) [hF,w1,hg1,hL1,hg2,hL2,hl2,p1,p1',p2,p2',zr,zt,zn,zc]
      · have p2':¬ 1+(f:Int) < (r.length:Int)+1:=by omega
        simp (disch:=((try simp only [zc,List.length_append,List.length_cons,List.length_nil]);omega)) [hF,w1,hg1,hL1,hg2,hL2,hl2,p1,p1',p2,p2',zr,zt,zn,zc]
    · have p1':¬ (0:Int) < (f:Int):=by omega
      by_cases p2:1+f < r.length+1
      · have p2':1+(f:Int) < (r.length:Int)+1:=by omega
        simp (disch:=((try simp only [zc,List.length_append,List.length_cons,List.length_nil]);omega)) [hF,w1,hg1,hL1,hg2,hL2,hl2,p1,p1',p2,p2',zr,zt,zn,zc]
      · have p2':¬ 1+(f:Int) < (r.length:Int)+1:=by omega
        simp (disch:=((try simp only [zc,List.length_append,List.length_cons,List.length_nil]);omega)) [hF,w1,hg1,hL1,hg2,hL2,hl2,p1,p1',p2,p2',zr,zt,zn,zc]
  · cases l with
    |nil=>simp [Sl.len]
    |cons a r=>
      have hp:(0:Int) < (r.length:Int)+1:=by omega
      simp (disch:=((try simp only [zc,List.length_append,List.length_cons,List.length_nil]);omega)) [Sl.len,hp,zr,zt,zn,zc]
  · cases l with
    |nil=>simp [Sl.len]
    |cons a r=>
      have hp:(0:Int) < (r.length:Int)+1:=by omega
      simp (disch:=((try simp only [zc,List.length_append,List.length_cons,List.length_nil]);omega)) [Sl.len,hp,zr,zt,zn,zc]
  · have hp:v < 0→1≤I.length:=fun h=>by rw [← hI];unfold Lib.itoa;rw [if_pos h];simp
    unfold zav
    rw [hI]
    by_cases h0:t=[]
    · simp [h0]
    · by_cases h1:0 < v
      · simp (disch:=((try simp only [zc,List.length_append,List.length_cons,List.length_nil]);omega)) [h0,h1,Yr,zr,zt,zn,zc]
      · by_cases h2:v < 0
        · have hg:z8 (lit I) 1 (I.length:Int)=some (lit (I.drop 1)):=by
            have:=XI (s:=lit I) (i:=1) (j:=I.length) (hp h2) (by rw [zc];omega)
            rw [show ((1:Nat):Int)=1 from rfl] at this
            rw [this]
            congr 1
            refine wK ?_
            rw [wc,ZP,List.take_of_length_le (Nat.le_refl _),ZP]
          have hd1:(I.drop 1).length≤30:=by rw [List.length_drop];omega
          simp only [List.drop_one] at hg hd1
          simp (disch:=((try simp only [zc,List.length_append,List.length_cons,List.length_nil]);omega)) [h0,h1,h2,Yr,hg,zr,zt,zn,zc]
        · simp [h0,h1,h2,Yr]
  · obtain ⟨i,hi⟩:∃ i,l.length=i+2:=by
      unfold yn at hf
      simp [YO] at hf
      exact ⟨l.length - 2,by omega⟩
    have hkl:=K.len
    obtain ⟨x,gx,hx1,hx2⟩:=ze1 (b:=b) K (i:=i) (by omega)
    obtain ⟨y,gy,hy1,hy2⟩:=ze1 (b:=b) K (i:=i+1) (by omega)
    have w1:IntKind.i64.wrap (((i+2:Nat):Int) - 1)=((i+1:Nat):Int):=by rw [ZD (by omega) (by omega)];omega
    have w2:IntKind.i64.wrap (((i+1:Nat):Int) - 1)=(i:Int):=by rw [ZD (by omega) (by omega)];omega
    have hg:zD (⟨l.map toR,b⟩:Sl RNd) 0 (i:Int)=some ⟨(l.take i).map toR,b⟩:=by
      have:=yK (⟨l.map toR,b⟩:Sl RNd) (i:=0) (j:=i) (by omega) (by simp;omega)
      rw [show ((0:Nat):Int)=0 from rfl] at this
      rw [this,List.drop_zero,List.map_take]
    have hL:=wV (b:=b) (K.take i)
    have lL:=x3 (K.take i)
    have lx:=Xz K i
    have ly:=Xz K (i+1)
    have hl2:Sl.len (⟨l.map toR,b⟩:Sl RNd)=((i+2:Nat):Int):=by rw [YM,hi]
    have hno:zeO (l.drop i)=(bs x.Text_).isEmpty:=by
      rw [List.drop_eq_getElem_cons (by omega:i < l.length)]
      have:l[i]'(by omega)=x:=by
        have:=List.getElem?_eq_getElem (show i < l.length by omega)
        rw [gx] at this
        exact (Option.some.inj this).symm
      rw [this]
      rfl
    have hnt:((toR x).Text_=lit [])↔(bs x.Text_).isEmpty=true:=by
      rw [zkq]
      refine ⟨fun h=>by rw [h];rfl,fun h=>wK ?_⟩
      rw [ZP]
      simpa using h
    rw [hi,show i+2 - 2=i by omega,show i+2 - 1=i+1 by omega,hno,← List.map_take]
    generalize Z4 ((l.take i).map fun a=>shN a d)=C1 at hL lL ⊢
    generalize at0 (l.map fun a=>shN a d) i=X at hx2 lx ⊢
    generalize at0 (l.map fun a=>shN a d) (i+1)=Y at hy2 ly ⊢
    generalize (⟨(l.take i).map toR,b⟩:Sl RNd)=S1 at hL hg ⊢
    generalize (⟨l.map toR,b⟩:Sl RNd)=S at hx1 hy1 hg hl2 ⊢
    rw [hl2,w1,w2]
    have hy1':zk S ((i:Int)+1)=some (toR y):=hy1
    by_cases hn:(bs x.Text_).isEmpty=true
    · have hn':=hnt.2 hn
      rw [hn]
      simp only [hg,Option.bind_some,hL,hx1,hy1,Xl]
      simp (disch:=((try simp only [zc,List.length_append,List.length_cons,List.length_nil]);omega)) [hn',hy1',hy2,Xl,zr,zt,zn,zc]
    · have hn':¬ (toR x).Text_=lit []:=fun h=>hn (hnt.1 h)
      simp only [hg,Option.bind_some,hL,hx1,hy1,Xl]
      simp (disch:=((try simp only [zc,List.length_append,List.length_cons,List.length_nil]);omega)) [hn,hn',hx2,hy1',hy2,Xl,zr,zt,zn,zc]
  · have hs:wR [] (l.map fun a=>shN a d)=A:=by
      unfold yn at hf
      simp [YO] at hf
      rw [← hA]
      match l,hf with
      |[],_=>rfl
      |[a],_=>unfold wR;rw [List.map_cons,List.map_nil,Lib.join_one];rfl
      |a::c::l,hf=>
        have h2:=hf.1
        simp only [List.length_cons] at h2
        omega
    rw [hs]
    by_cases h1:t=[38]
    · simp (disch:=((try simp only [zc,List.length_append,List.length_cons,List.length_nil]);omega)) [h1,zr,zt,zn,zc]
    · by_cases h2:t=[38,109,117,116]
      · simp (disch:=((try simp only [zc,List.length_append,List.length_cons,List.length_nil]);omega)) [h2,Yr,zr,zt,zn,zc]
      · by_cases h3:t=[111,119,110]
        · simp (disch:=((try simp only [zc,List.length_append,List.length_cons,List.length_nil]);omega)) [h3,Yr,zr,zt,zn,zc]
        · simp [h1,h2,h3,Yr]
  · have hd1:=zeW (d:=d+1) (by omega)
    have hd0:=zeW (d:=d) (by omega)
    have w1:IntKind.i64.wrap ((d:Int)+1)=((d+1:Nat):Int):=Z1 (by omega)
    have hU:=zfD (b:=b) (k:=9) (v:=v) (p:=p) (t:=lit t) K' hd (a1:=q17) (a2:=qi h) (a3:=qw) (a4:=qn) (a5:=qk h) (a6:=q10) l.length 0 (by omega)
    have hU:lpO (q1q q17 (qi h) h qw qn (qk h) q10) ((d:Int),lit [123,10],lit (z6 (d+1)),0,9,lit t,v,p,(⟨l.map toR,b⟩:Sl RNd))=_:=hU
    have hr:(l.map fun a=>shN a (d+1)).map (fun x=>z6 (d+1)++x++[10])=l.map fun a=>z6 (d+1)++shN a (d+1)++[10]:=by
      rw [List.map_map];rfl
    have l2:=zbd (d:=d) l
    have l3:=K'.sm
    have l4:(4 * (d+1)+1) * l.length≤200000 * 30000:=Nat.mul_le_mul (by omega) K'.len
    have l5:=yj d
    rw [hr]
    rw [show (l.map fun a=>z6 (d+1)++shN a (d+1)++[10]).flatten=vP d l from rfl]
    rw [w1,hd1,Option.bind_some]
    simp (disch:=((try simp only [zc,List.length_append,List.length_cons,List.length_nil]);omega)) [hd0,hU,zr,zt,zn,zc]
  · obtain ⟨a,c,e,f,rfl⟩:=kk4 (of_decide_eq_true hf:kK l=[5,5,9,9])
    obtain ⟨x,gx,hx1,hx2⟩:=ze1 (b:=b) K (i:=2) (by simp)
    obtain ⟨y,gy,hy1,hy2⟩:=ze1 (b:=b) K (i:=3) (by simp)
    have lx:=Xz K 2
    have ly:=Xz K 3
    have hy:y=f:=by simpa using gy.symm
    subst hy
    have hno:zb2 ([a,c,e,y].drop 3)=y.Kids_.xs.isEmpty:=rfl
    have hnt:(0 < Sl.len (toR y).Kids_)↔¬ y.Kids_.xs.isEmpty=true:=by
      unfold Sl.len
      rw [zkr,List.length_map]
      cases y.Kids_.xs <;> simp
    rw [hno]
    generalize at0 ([a,c,e,y].map fun a=>shN a d) 2=X at hx2 lx ⊢
    generalize at0 ([a,c,e,y].map fun a=>shN a d) 3=Y at hy2 ly ⊢
    have hx1:zk (⟨[a,c,e,y].map toR,b⟩:Sl RNd) 2=some (toR x):=hx1
    have hy1:zk (⟨[a,c,e,y].map toR,b⟩:Sl RNd) 3=some (toR y):=hy1
    generalize (⟨[a,c,e,y].map toR,b⟩:Sl RNd)=S at hx1 hy1 ⊢
    by_cases hn:y.Kids_.xs.isEmpty=true
    · have hn':¬ 0 < Sl.len (toR y).Kids_:=fun h=>(hnt.1 h) hn
      simp (disch:=((try simp only [zc,List.length_append,List.length_cons,List.length_nil]);omega)) [hn',hn,hx1,hx2,hy1,hy2,Xl,zr,zt,zn,zc]
    · have hn':=hnt.2 hn
      simp (disch:=((try simp only [zc,List.length_append,List.length_cons,List.length_nil]);omega)) [hn',hn,hx1,hx2,hy1,hy2,Xl,zr,zt,zn,zc]
  · obtain ⟨a,c,e,rfl⟩:=kk3 (of_decide_eq_true hf:kK l=[5,5,9])
    obtain ⟨x,gx,hx1,hx2⟩:=ze1 (b:=b) K (i:=2) (by simp)
    have lx:=Xz K 2
    generalize at0 ([a,c,e].map fun a=>shN a d) 2=X at hx2 lx ⊢
    have hx1:zk (⟨[a,c,e].map toR,b⟩:Sl RNd) 2=some (toR x):=hx1
    generalize (⟨[a,c,e].map toR,b⟩:Sl RNd)=S at hx1 ⊢
    simp (disch:=((try simp only [zc,List.length_append,List.length_cons,List.length_nil]);omega)) [hx1,hx2,Xl,zr,zt,zn,zc]
  · cases l with
    |nil=>simp [Sl.len]
    |cons a r=>
      have hp:(0:Int) < (r.length:Int)+1:=by omega
      simp (disch:=((try simp only [zc,List.length_append,List.length_cons,List.length_nil]);omega)) [Sl.len,hp,zr,zt,zn,zc]
  · have hL:=wV (b:=b) K
    have lL:=x3 K
    simp (disch:=((try simp only [zc,List.length_append,List.length_cons,List.length_nil]);omega)) [hL,zr,zt,zn,zc]
  · have hL:=wV (b:=b) K
    have lL:=x3 K
    simp (disch:=((try simp only [zc,List.length_append,List.length_cons,List.length_nil]);omega)) [hL,zr,zt,zn,zc]
end Go.Px
namespace Go.Px
set_option linter.unusedVariables false
set_option linter.unusedSimpArgs false
theorem zkR {h:RhF}{s:Sl Nd}{d:Nat}(hk:∀ a∈s.xs,h (toR a,(d:Int))=some (lit (shN a d))) (hg:XX s.xs) (hd:d+zi s.xs≤5000):KR h s.xs d:=by
 have K:KO (fun x=>some (lit (shN x.1 x.2.toNat))) s d:=zhw (fun a ha=>rfl) hg hd
 exact ⟨K.len,hk,K.sm⟩
theorem zjl:∀ (f:Nat) (n:Nd) (d:Nat),z7 n≤f→zT n→d+z7 n≤5000→qu f (toR n,(d:Int))=some (lit (shN n d)):=by
 intro f
 induction f with
 |zero=>intro n d h;have:=zo n;omega
 |succ f ih=>
  intro n d hf hg hd
  have hs:=zo n
  obtain ⟨g1,g2,g3⟩:=(wU n).1 hg
  obtain ⟨k,t,v,p,s⟩:=n
  dsimp only at hs g1 g2 g3
  have g4:=(Yz _).1 g3
  have K:KR (qu f) s.xs d:=zkR (fun a ha=>by
   have:=yC ha
   exact ih a d (by omega) (g4 a ha) (by omega)) g3 (by omega)
  have K':KR (qu f) s.xs (d+1):=zkR (fun a ha=>by
   have:=yC ha
   exact ih a (d+1) (by omega) (g4 a ha) (by omega)) g3 (by omega)
  have ht:t=lit (bs t):=(zeP t).symm
  rw [WU,ht]
  exact (zhF (b:= !(s.xs.map toR).isEmpty) K K' (by omega) (by rw [Zr];exact g1) g2).trans (by
   obtain ⟨xs,nn⟩:=s
   rw [V0,V0])
theorem zks {n:Nd}(hg:zT n) (hs:z7 n≤5000):q5g (toR n)=some (lit (shN n 0)):=by
 have:=zjl 100000 n 0 (by omega) hg (by omega)
 have this:qu 100000 (toR n,0)=_:=this
 show ((q5h (_,0)).bind fun y=>some y)=_
 rw [Xl]
 show ((qu 100000 (toR n,0)).bind fun y=>some y)=_
 rw [this]
 rfl
theorem zjm (hw:qt ()=some true) (s:ByteArray):q2h s=some true:=by
 have hshow:=zhx s
 obtain ⟨g,hz⟩:=vO s
 have ht:q2v (xB s).1=_:=zfC 100000 (xB s).1 (by omega) (by omega)
 have hr:=zks g (by omega)
 rw [WU] at hr
 unfold q2h q3y
 rw [zeN,Option.bind_some,hw,Option.bind_some,if_pos rfl,zS,hshow,Option.bind_some,ht,Option.bind_some]
 dsimp only
 rw [hr]
 simp
theorem ze2 {s:ByteArray}(hs:s.size < 4611686018427387904):q2h s=some true:=zjm zkd s
end Go.Px
