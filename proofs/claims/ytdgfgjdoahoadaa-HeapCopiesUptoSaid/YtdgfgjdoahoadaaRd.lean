/- Readings of the arguments. -/
import Derived.Test.YtdgfgjdoahoadaaCh
import Derived.Test.YtdgfgjdoahoadaaA8
namespace Go.Px
open Go.Proofs
set_option linter.unusedVariables false
theorem zmm:Try.prog.cellsOf 41=1:=by kernel_rfl
theorem zmn:Try.prog.underlying 41=some (.slice 51):=by kernel_rfl
theorem zmo:Try.prog.cellsOf 51=26:=by kernel_rfl
noncomputable def xy:Array Field:=fieldsOf Try.t50.desc
theorem zmp:Try.prog.underlying 51=some (.struct xy):=by kernel_rfl
theorem rc3:Try.prog.cellsOf 3=1:=by kernel_rfl
theorem ru3:Try.prog.underlying 3=some (.int .i64):=by kernel_rfl
theorem zcC:Try.prog.cellsOf 33=4:=by kernel_rfl
noncomputable def vq:Array Field:=fieldsOf Try.t32.desc
theorem zmq:Try.prog.underlying 33=some (.struct vq):=by kernel_rfl
theorem zmr:Try.prog.cellsOf 31=1:=by kernel_rfl
theorem znE:Try.prog.underlying 31=some (.int .i64):=by kernel_rfl
theorem rc2:Try.prog.cellsOf 2=1:=by kernel_rfl
theorem ru2:Try.prog.underlying 2=some (.int .i64):=by kernel_rfl
abbrev Zl:Ty qh:=(Zm (ZJ .i64) (Zm (ZJ .i64) (Zm (ZJ .i64) (ZJ .i64)))).comap fun x=>(x.Kind_,x.Var_,x.K_,x.Block_)
theorem xg:TR CC Zl (CC.emb 33):=(ve (fun x:qh=>(x.Kind_,x.Var_,x.K_,x.Block_)) (Zs Yx (Zs Yx (Zs Yx Yx)))).of (fun x=>rfl)
theorem xh:Rd Try.prog 33 Zl (fun x=>(1+1+1+1+1)) (fun x=>((IntKind.i64.min≤x.Kind_∧x.Kind_≤IntKind.i64.max)∧(IntKind.i64.min≤x.Var_∧x.Var_≤IntKind.i64.max)∧(IntKind.i64.min≤x.K_∧x.K_≤IntKind.i64.max)∧(IntKind.i64.min≤x.Block_∧x.Block_≤IntKind.i64.max))) where
 open_:=by
  intro H enc m hm W fuel cs x h
  obtain ⟨hl,n,xs,hx,hlen,hf⟩:=Xs zmq h
  obtain ⟨y0,hy0,ht0⟩:=hf 0 (vq.getD 0 default) rfl
  obtain ⟨a0,r0,w0,g0⟩:=(Yw znE zmr).open_ enc m hm W n _ _ ht0
  replace r0:(ZJ .i64).rel (Zv W) ((cs.drop 0).take 1) a0:=by rw [show Try.prog.cellsOf (vq.getD 0 default).type=1 from zmr] at r0;exact r0
  obtain ⟨y1,hy1,ht1⟩:=hf 1 (vq.getD 1 default) rfl
  obtain ⟨a1,r1,w1,g1⟩:=(Yw ru3 rc3).open_ enc m hm W n _ _ ht1
  replace r1:(ZJ .i64).rel (Zv W) ((cs.drop 1).take 1) a1:=by rw [show Try.prog.cellsOf (vq.getD 1 default).type=1 from rc3] at r1;exact r1
  obtain ⟨y2,hy2,ht2⟩:=hf 2 (vq.getD 2 default) rfl
  obtain ⟨a2,r2,w2,g2⟩:=(Yw ru2 rc2).open_ enc m hm W n _ _ ht2
  replace r2:(ZJ .i64).rel (Zv W) ((cs.drop 2).take 1) a2:=by rw [show Try.prog.cellsOf (vq.getD 2 default).type=1 from rc2] at r2;exact r2
  obtain ⟨y3,hy3,ht3⟩:=hf 3 (vq.getD 3 default) rfl
  obtain ⟨a3,r3,w3,g3⟩:=(Yw ru3 rc3).open_ enc m hm W n _ _ ht3
  replace r3:(ZJ .i64).rel (Zv W) ((cs.drop 3).take 1) a3:=by rw [show Try.prog.cellsOf (vq.getD 3 default).type=1 from rc3] at r3;exact r3
  have hcs:cs=(cs.drop 0).take 4:=by rw [zcC] at hl;rw [List.drop_zero,← hl,List.take_length]
  refine ⟨⟨a0,a1,a2,a3⟩,?_,?_,⟨g0,g1,g2,g3⟩⟩
  ·rw [hcs];exact (Zr r0 (Zr r1 (Zr r2 r3 rfl) rfl) rfl)
  ·have hag:=hm.agg (xs.map (·.1))
   rw [← hx] at hag
   match xs,hlen with
   |[z0,z1,z2,z3],_=>
    simp at hy0 hy1 hy2 hy3
    subst hy0;subst hy1;subst hy2;subst hy3
    simp only [List.map_cons,List.map_nil,List.sum_cons,List.sum_nil] at hag
    try simp only at w0 w1 w2 w3
    try simp only
    omega
 shape:=xR zmq
 size:=zcC
theorem zj8:Try.prog.cellsOf 49=11:=by kernel_rfl
noncomputable def Y0:Array Field:=fieldsOf Try.t48.desc
theorem zms:Try.prog.underlying 49=some (.struct Y0):=by kernel_rfl
theorem zmt:Try.prog.cellsOf 47=1:=by kernel_rfl
theorem znF:Try.prog.underlying 47=some (.int .i64):=by kernel_rfl
theorem rc4:Try.prog.cellsOf 4=1:=by kernel_rfl
theorem ru4:Try.prog.underlying 4=some .bool:=by kernel_rfl
theorem zmu:Try.prog.cellsOf 23=1:=by kernel_rfl
theorem znG:Try.prog.underlying 23=some (.slice 33):=by kernel_rfl
abbrev xm:Ty q8:=(Zm (ZJ .i64) (Zm (ZJ .i64) (Zm (ZJ .i64) (Zm XO (Zm XO (Zm XO (Zm Zl (tSl Zl)))))))).comap fun x=>(x.Origin_,x.Type_,x.At_,x.Live_,x.Held_,x.Array_,x.Size_,x.Cells_)
theorem zdr:TR CC xm (CC.emb 49):=(ve (fun x:q8=>(x.Origin_,x.Type_,x.At_,x.Live_,x.Held_,x.Array_,x.Size_,x.Cells_)) (Zs Yx (Zs Yx (Zs Yx (Zs zct (Zs zct (Zs zct (Zs xg (zdx (C:=CC) (T:=33) rfl xg))))))))).of (fun x=>rfl)
theorem zds:Rd Try.prog 49 xm (fun x=>(1+1+1+1+1+1+(1+1+1+1+1)+((x.Cells_.xs.map (fun y1=>(1+1+1+1+1))).sum+1)+1)) (fun x=>((IntKind.i64.min≤x.Origin_∧x.Origin_≤IntKind.i64.max)∧(IntKind.i64.min≤x.Type_∧x.Type_≤IntKind.i64.max)∧(IntKind.i64.min≤x.At_∧x.At_≤IntKind.i64.max)∧True∧True∧True∧((IntKind.i64.min≤x.Size_.Kind_∧x.Size_.Kind_≤IntKind.i64.max)∧(IntKind.i64.min≤x.Size_.Var_∧x.Size_.Var_≤IntKind.i64.max)∧(IntKind.i64.min≤x.Size_.K_∧x.Size_.K_≤IntKind.i64.max)∧(IntKind.i64.min≤x.Size_.Block_∧x.Size_.Block_≤IntKind.i64.max))∧((x.Cells_.nn=false→x.Cells_.xs=[])∧x.Cells_.xs.length≤maxLen∧∀ y1∈x.Cells_.xs,((IntKind.i64.min≤y1.Kind_∧y1.Kind_≤IntKind.i64.max)∧(IntKind.i64.min≤y1.Var_∧y1.Var_≤IntKind.i64.max)∧(IntKind.i64.min≤y1.K_∧y1.K_≤IntKind.i64.max)∧(IntKind.i64.min≤y1.Block_∧y1.Block_≤IntKind.i64.max))))) where
 open_:=by
  intro H enc m hm W fuel cs x h
  obtain ⟨hl,n,xs,hx,hlen,hf⟩:=Xs zms h
  obtain ⟨y0,hy0,ht0⟩:=hf 0 (Y0.getD 0 default) rfl
  obtain ⟨a0,r0,w0,g0⟩:=(Yw znF zmt).open_ enc m hm W n _ _ ht0
  replace r0:(ZJ .i64).rel (Zv W) ((cs.drop 0).take 1) a0:=by rw [show Try.prog.cellsOf (Y0.getD 0 default).type=1 from zmt] at r0;exact r0
  obtain ⟨y1,hy1,ht1⟩:=hf 1 (Y0.getD 1 default) rfl
  obtain ⟨a1,r1,w1,g1⟩:=(Yw ru3 rc3).open_ enc m hm W n _ _ ht1
  replace r1:(ZJ .i64).rel (Zv W) ((cs.drop 1).take 1) a1:=by rw [show Try.prog.cellsOf (Y0.getD 1 default).type=1 from rc3] at r1;exact r1
  obtain ⟨y2,hy2,ht2⟩:=hf 2 (Y0.getD 2 default) rfl
  obtain ⟨a2,r2,w2,g2⟩:=(Yw ru3 rc3).open_ enc m hm W n _ _ ht2
  replace r2:(ZJ .i64).rel (Zv W) ((cs.drop 2).take 1) a2:=by rw [show Try.prog.cellsOf (Y0.getD 2 default).type=1 from rc3] at r2;exact r2
  obtain ⟨y3,hy3,ht3⟩:=hf 3 (Y0.getD 3 default) rfl
  obtain ⟨a3,r3,w3,g3⟩:=(zcs ru4 rc4).open_ enc m hm W n _ _ ht3
  replace r3:XO.rel (Zv W) ((cs.drop 3).take 1) a3:=by rw [show Try.prog.cellsOf (Y0.getD 3 default).type=1 from rc4] at r3;exact r3
  obtain ⟨y4,hy4,ht4⟩:=hf 4 (Y0.getD 4 default) rfl
  obtain ⟨a4,r4,w4,g4⟩:=(zcs ru4 rc4).open_ enc m hm W n _ _ ht4
  replace r4:XO.rel (Zv W) ((cs.drop 4).take 1) a4:=by rw [show Try.prog.cellsOf (Y0.getD 4 default).type=1 from rc4] at r4;exact r4
  obtain ⟨y5,hy5,ht5⟩:=hf 5 (Y0.getD 5 default) rfl
  obtain ⟨a5,r5,w5,g5⟩:=(zcs ru4 rc4).open_ enc m hm W n _ _ ht5
  replace r5:XO.rel (Zv W) ((cs.drop 5).take 1) a5:=by rw [show Try.prog.cellsOf (Y0.getD 5 default).type=1 from rc4] at r5;exact r5
  obtain ⟨y6,hy6,ht6⟩:=hf 6 (Y0.getD 6 default) rfl
  obtain ⟨a6,r6,w6,g6⟩:=xh.open_ enc m hm W n _ _ ht6
  replace r6:Zl.rel (Zv W) ((cs.drop 6).take 4) a6:=by rw [show Try.prog.cellsOf (Y0.getD 6 default).type=4 from zcC] at r6;exact r6
  obtain ⟨y7,hy7,ht7⟩:=hf 7 (Y0.getD 7 default) rfl
  obtain ⟨a7,r7,w7,g7⟩:=(vd znG zmu xh).open_ enc m hm W n _ _ ht7
  replace r7:(tSl Zl).rel (Zv W) ((cs.drop 10).take 1) a7:=by rw [show Try.prog.cellsOf (Y0.getD 7 default).type=1 from zmu] at r7;exact r7
  have hcs:cs=(cs.drop 0).take 11:=by rw [zj8] at hl;rw [List.drop_zero,← hl,List.take_length]
  refine ⟨⟨a0,a1,a2,a3,a4,a5,a6,a7⟩,?_,?_,⟨g0,g1,g2,g3,g4,g5,g6,g7⟩⟩
  ·rw [hcs];exact (Zr r0 (Zr r1 (Zr r2 (Zr r3 (Zr r4 (Zr r5 (Zr r6 r7 rfl) rfl) rfl) rfl) rfl) rfl) rfl)
  ·have hag:=hm.agg (xs.map (·.1))
   rw [← hx] at hag
   match xs,hlen with
   |[z0,z1,z2,z3,z4,z5,z6,z7],_=>
    simp at hy0 hy1 hy2 hy3 hy4 hy5 hy6 hy7
    subst hy0;subst hy1;subst hy2;subst hy3;subst hy4;subst hy5;subst hy6;subst hy7
    simp only [List.map_cons,List.map_nil,List.sum_cons,List.sum_nil] at hag
    try simp only at w0 w1 w2 w3 w4 w5 w6 w7
    try simp only
    omega
 shape:=xR zms
 size:=zj8
theorem zmv:Try.prog.cellsOf 22=1:=by kernel_rfl
theorem znH:Try.prog.underlying 22=some (.slice 39):=by kernel_rfl
theorem zmw:Try.prog.cellsOf 39=3:=by kernel_rfl
noncomputable def za5:Array Field:=fieldsOf Try.t38.desc
theorem zmx:Try.prog.underlying 39=some (.struct za5):=by kernel_rfl
abbrev Xv:Ty qg:=(Zm (ZJ .i64) (Zm (ZJ .i64) (ZJ .i64))).comap fun x=>(x.X_,x.Y_,x.C_)
theorem zfw:TR CC Xv (CC.emb 39):=(ve (fun x:qg=>(x.X_,x.Y_,x.C_)) (Zs Yx (Zs Yx Yx))).of (fun x=>rfl)
theorem zfx:Rd Try.prog 39 Xv (fun x=>(1+1+1+1)) (fun x=>((IntKind.i64.min≤x.X_∧x.X_≤IntKind.i64.max)∧(IntKind.i64.min≤x.Y_∧x.Y_≤IntKind.i64.max)∧(IntKind.i64.min≤x.C_∧x.C_≤IntKind.i64.max))) where
 open_:=by
  intro H enc m hm W fuel cs x h
  obtain ⟨hl,n,xs,hx,hlen,hf⟩:=Xs zmx h
  obtain ⟨y0,hy0,ht0⟩:=hf 0 (za5.getD 0 default) rfl
  obtain ⟨a0,r0,w0,g0⟩:=(Yw ru3 rc3).open_ enc m hm W n _ _ ht0
  replace r0:(ZJ .i64).rel (Zv W) ((cs.drop 0).take 1) a0:=by rw [show Try.prog.cellsOf (za5.getD 0 default).type=1 from rc3] at r0;exact r0
  obtain ⟨y1,hy1,ht1⟩:=hf 1 (za5.getD 1 default) rfl
  obtain ⟨a1,r1,w1,g1⟩:=(Yw ru3 rc3).open_ enc m hm W n _ _ ht1
  replace r1:(ZJ .i64).rel (Zv W) ((cs.drop 1).take 1) a1:=by rw [show Try.prog.cellsOf (za5.getD 1 default).type=1 from rc3] at r1;exact r1
  obtain ⟨y2,hy2,ht2⟩:=hf 2 (za5.getD 2 default) rfl
  obtain ⟨a2,r2,w2,g2⟩:=(Yw ru2 rc2).open_ enc m hm W n _ _ ht2
  replace r2:(ZJ .i64).rel (Zv W) ((cs.drop 2).take 1) a2:=by rw [show Try.prog.cellsOf (za5.getD 2 default).type=1 from rc2] at r2;exact r2
  have hcs:cs=(cs.drop 0).take 3:=by rw [zmw] at hl;rw [List.drop_zero,← hl,List.take_length]
  refine ⟨⟨a0,a1,a2⟩,?_,?_,⟨g0,g1,g2⟩⟩
  ·rw [hcs];exact (Zr r0 (Zr r1 r2 rfl) rfl)
  ·have hag:=hm.agg (xs.map (·.1))
   rw [← hx] at hag
   match xs,hlen with
   |[z0,z1,z2],_=>
    simp at hy0 hy1 hy2
    subst hy0;subst hy1;subst hy2
    simp only [List.map_cons,List.map_nil,List.sum_cons,List.sum_nil] at hag
    try simp only at w0 w1 w2
    try simp only
    omega
 shape:=xR zmx
 size:=zmw
abbrev xZ:Ty qj:=(Zm (ZJ .i64) (Zm Zl (Zm Zl (Zm Zl (Zm (ZJ .i64) (Zm xm (tSl Xv))))))).comap fun x=>(x.Kind_,x.P_,x.I_,x.V_,x.N_,x.Chunk_,x.Facts_)
theorem x4:TR CC xZ (CC.emb 51):=(ve (fun x:qj=>(x.Kind_,x.P_,x.I_,x.V_,x.N_,x.Chunk_,x.Facts_)) (Zs Yx (Zs xg (Zs xg (Zs xg (Zs Yx (Zs zdr (zdx (C:=CC) (T:=39) rfl zfw)))))))).of (fun x=>rfl)
theorem x5:Rd Try.prog 51 xZ (fun x=>(1+(1+1+1+1+1)+(1+1+1+1+1)+(1+1+1+1+1)+1+(1+1+1+1+1+1+(1+1+1+1+1)+((x.Chunk_.Cells_.xs.map (fun y2=>(1+1+1+1+1))).sum+1)+1)+((x.Facts_.xs.map (fun y1=>(1+1+1+1))).sum+1)+1)) (fun x=>((IntKind.i64.min≤x.Kind_∧x.Kind_≤IntKind.i64.max)∧((IntKind.i64.min≤x.P_.Kind_∧x.P_.Kind_≤IntKind.i64.max)∧(IntKind.i64.min≤x.P_.Var_∧x.P_.Var_≤IntKind.i64.max)∧(IntKind.i64.min≤x.P_.K_∧x.P_.K_≤IntKind.i64.max)∧(IntKind.i64.min≤x.P_.Block_∧x.P_.Block_≤IntKind.i64.max))∧((IntKind.i64.min≤x.I_.Kind_∧x.I_.Kind_≤IntKind.i64.max)∧(IntKind.i64.min≤x.I_.Var_∧x.I_.Var_≤IntKind.i64.max)∧(IntKind.i64.min≤x.I_.K_∧x.I_.K_≤IntKind.i64.max)∧(IntKind.i64.min≤x.I_.Block_∧x.I_.Block_≤IntKind.i64.max))∧((IntKind.i64.min≤x.V_.Kind_∧x.V_.Kind_≤IntKind.i64.max)∧(IntKind.i64.min≤x.V_.Var_∧x.V_.Var_≤IntKind.i64.max)∧(IntKind.i64.min≤x.V_.K_∧x.V_.K_≤IntKind.i64.max)∧(IntKind.i64.min≤x.V_.Block_∧x.V_.Block_≤IntKind.i64.max))∧(IntKind.i64.min≤x.N_∧x.N_≤IntKind.i64.max)∧((IntKind.i64.min≤x.Chunk_.Origin_∧x.Chunk_.Origin_≤IntKind.i64.max)∧(IntKind.i64.min≤x.Chunk_.Type_∧x.Chunk_.Type_≤IntKind.i64.max)∧(IntKind.i64.min≤x.Chunk_.At_∧x.Chunk_.At_≤IntKind.i64.max)∧True∧True∧True∧((IntKind.i64.min≤x.Chunk_.Size_.Kind_∧x.Chunk_.Size_.Kind_≤IntKind.i64.max)∧(IntKind.i64.min≤x.Chunk_.Size_.Var_∧x.Chunk_.Size_.Var_≤IntKind.i64.max)∧(IntKind.i64.min≤x.Chunk_.Size_.K_∧x.Chunk_.Size_.K_≤IntKind.i64.max)∧(IntKind.i64.min≤x.Chunk_.Size_.Block_∧x.Chunk_.Size_.Block_≤IntKind.i64.max))∧((x.Chunk_.Cells_.nn=false→x.Chunk_.Cells_.xs=[])∧x.Chunk_.Cells_.xs.length≤maxLen∧∀ y2∈x.Chunk_.Cells_.xs,((IntKind.i64.min≤y2.Kind_∧y2.Kind_≤IntKind.i64.max)∧(IntKind.i64.min≤y2.Var_∧y2.Var_≤IntKind.i64.max)∧(IntKind.i64.min≤y2.K_∧y2.K_≤IntKind.i64.max)∧(IntKind.i64.min≤y2.Block_∧y2.Block_≤IntKind.i64.max))))∧((x.Facts_.nn=false→x.Facts_.xs=[])∧x.Facts_.xs.length≤maxLen∧∀ y1∈x.Facts_.xs,((IntKind.i64.min≤y1.X_∧y1.X_≤IntKind.i64.max)∧(IntKind.i64.min≤y1.Y_∧y1.Y_≤IntKind.i64.max)∧(IntKind.i64.min≤y1.C_∧y1.C_≤IntKind.i64.max))))) where
 open_:=by
  intro H enc m hm W fuel cs x h
  obtain ⟨hl,n,xs,hx,hlen,hf⟩:=Xs zmp h
  obtain ⟨y0,hy0,ht0⟩:=hf 0 (xy.getD 0 default) rfl
  obtain ⟨a0,r0,w0,g0⟩:=(Yw ru3 rc3).open_ enc m hm W n _ _ ht0
  replace r0:(ZJ .i64).rel (Zv W) ((cs.drop 0).take 1) a0:=by rw [show Try.prog.cellsOf (xy.getD 0 default).type=1 from rc3] at r0;exact r0
  obtain ⟨y1,hy1,ht1⟩:=hf 1 (xy.getD 1 default) rfl
  obtain ⟨a1,r1,w1,g1⟩:=xh.open_ enc m hm W n _ _ ht1
  replace r1:Zl.rel (Zv W) ((cs.drop 1).take 4) a1:=by rw [show Try.prog.cellsOf (xy.getD 1 default).type=4 from zcC] at r1;exact r1
  obtain ⟨y2,hy2,ht2⟩:=hf 2 (xy.getD 2 default) rfl
  obtain ⟨a2,r2,w2,g2⟩:=xh.open_ enc m hm W n _ _ ht2
  replace r2:Zl.rel (Zv W) ((cs.drop 5).take 4) a2:=by rw [show Try.prog.cellsOf (xy.getD 2 default).type=4 from zcC] at r2;exact r2
  obtain ⟨y3,hy3,ht3⟩:=hf 3 (xy.getD 3 default) rfl
  obtain ⟨a3,r3,w3,g3⟩:=xh.open_ enc m hm W n _ _ ht3
  replace r3:Zl.rel (Zv W) ((cs.drop 9).take 4) a3:=by rw [show Try.prog.cellsOf (xy.getD 3 default).type=4 from zcC] at r3;exact r3
  obtain ⟨y4,hy4,ht4⟩:=hf 4 (xy.getD 4 default) rfl
  obtain ⟨a4,r4,w4,g4⟩:=(Yw ru2 rc2).open_ enc m hm W n _ _ ht4
  replace r4:(ZJ .i64).rel (Zv W) ((cs.drop 13).take 1) a4:=by rw [show Try.prog.cellsOf (xy.getD 4 default).type=1 from rc2] at r4;exact r4
  obtain ⟨y5,hy5,ht5⟩:=hf 5 (xy.getD 5 default) rfl
  obtain ⟨a5,r5,w5,g5⟩:=zds.open_ enc m hm W n _ _ ht5
  replace r5:xm.rel (Zv W) ((cs.drop 14).take 11) a5:=by rw [show Try.prog.cellsOf (xy.getD 5 default).type=11 from zj8] at r5;exact r5
  obtain ⟨y6,hy6,ht6⟩:=hf 6 (xy.getD 6 default) rfl
  obtain ⟨a6,r6,w6,g6⟩:=(vd znH zmv zfx).open_ enc m hm W n _ _ ht6
  replace r6:(tSl Xv).rel (Zv W) ((cs.drop 25).take 1) a6:=by rw [show Try.prog.cellsOf (xy.getD 6 default).type=1 from zmv] at r6;exact r6
  have hcs:cs=(cs.drop 0).take 26:=by rw [zmo] at hl;rw [List.drop_zero,← hl,List.take_length]
  refine ⟨⟨a0,a1,a2,a3,a4,a5,a6⟩,?_,?_,⟨g0,g1,g2,g3,g4,g5,g6⟩⟩
  ·rw [hcs];exact (Zr r0 (Zr r1 (Zr r2 (Zr r3 (Zr r4 (Zr r5 r6 rfl) rfl) rfl) rfl) rfl) rfl)
  ·have hag:=hm.agg (xs.map (·.1))
   rw [← hx] at hag
   match xs,hlen with
   |[z0,z1,z2,z3,z4,z5,z6],_=>
    simp at hy0 hy1 hy2 hy3 hy4 hy5 hy6
    subst hy0;subst hy1;subst hy2;subst hy3;subst hy4;subst hy5;subst hy6
    simp only [List.map_cons,List.map_nil,List.sum_cons,List.sum_nil] at hag
    try simp only at w0 w1 w2 w3 w4 w5 w6
    try simp only
    omega
 shape:=xR zmp
 size:=zmo
end Go.Px
