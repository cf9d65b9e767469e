/- Texts of this seat, joined. Conditions: none beyond each statement's own. -/
import Derived.Test.YtgfajgkjbckkgaaGreatDoorPc13
import Derived.LaidMore
import Derived.Test.YtgfajgkjbckkgaaGreatDoorPc12
set_option linter.all false
section
set_option maxRecDepth 100000
namespace Go.Proofs.YtgfajgkjbckkgaaGreatDoor.PZ
open Go.ChangeShapes Go.WideShapes Go.ChangeAt Go.RowKit Go.Proofs.YtgfajgkjbckkgaaGreatDoorW.PrintWords
theorem open_t44 {H:Type}{enc:TypeId×Value→H}{W:World}{fuel:Nat}{cs:List Value}{y:DataW H×List MemPlace}(h:DataW.trod enc Tryz.prog W 0 (fun _=>true) true fuel 44 cs=some y)(hz:∀ n ∈ y.1.weights Tryz.prog 44,n≤reachBytes) :
    ∃ (Ax:Option Addr) (x:List (List S60)) (cx:Nat),cs=[.slice Ax x.length cx]∧Kd.C (Kd.slice 60 k60) W Ax x.length x∧x.length≤cx∧OkC x:=by
 obtain ⟨A,l,c,e1,e2,e3,e4⟩:=sl_c h hz
 exact ⟨A,l,c,e1,e2,e3,e4⟩
theorem open_t5 {H:Type}{enc:TypeId×Value→H}{W:World}{fuel:Nat}{cs:List Value}{y:DataW H×List MemPlace}(h:DataW.trod enc Tryz.prog W 0 (fun _=>true) true fuel 5 cs=some y)(hz:∀ n ∈ y.1.weights Tryz.prog 5,n≤reachBytes) :
    ∃ (x:Int),cs=[.int .u8 x]∧(Lit.int .u8 x).wf=true:=by
 obtain ⟨b,e,_,w⟩:=DataW.trod_int Tryz.underlying5 h
 exact ⟨b,e,w⟩
theorem open_t34 {H:Type}{enc:TypeId×Value→H}{W:World}{fuel:Nat}{cs:List Value}{y:DataW H×List MemPlace}(h:DataW.trod enc Tryz.prog W 0 (fun _=>true) true fuel 34 cs=some y)(hz:∀ n ∈ y.1.weights Tryz.prog 34,n≤reachBytes) :
    ∃ (Ax:Option Addr) (x:List Int) (cx:Nat),cs=[.slice Ax x.length cx]∧Kd.C (Kd.int .u8) W Ax x.length x∧x.length≤cx∧x.length≤maxLen∧x.length * 1≤140737488351232∧(∀ b_ ∈ x,(Lit.int .u8 b_).wf=true):=by
 have z:∃ (a:Option Addr) (len cap:Nat) (zs:List Int),cs=[.slice a len cap]∧((a=none∧len=0∧cap=0∧zs=[])∨∃ x,a=some x∧len≤cap∧cap≤maxLen∧zs.length=cap∧(∀ i,i<zs.length→W.cell? (x.add i)=some (.int .u8 (zs.getD i 0)))∧∀ n ∈ zs,(Lit.int .u8 n).wf=true)∧len * 1≤140737488351232:=by
  rcases open_ints Tryz.underlying34 Tryz.underlying5 (by kernel_rfl) h with ⟨hcs,_⟩|⟨x,l,c,zs,hcs,_,hl,hm,hz',hx,hcell,hwz⟩
  · exact ⟨_,_,_,[],hcs,.inl ⟨rfl,rfl,rfl,rfl⟩,by simp⟩
  refine ⟨_,_,_,zs,hcs,.inr ⟨_,rfl,hl,hm,by simpa using hz',hcell,hwz⟩,?_⟩
  have hzc:zs.length=c:=by simpa using hz'
  have hb:(Tryz.prog.bytesOf 5)=1:=by kernel_rfl
  have hk:=hz (((zs.take l).length+(zs.drop l).length) * 1) (by rw [hx];simp [DataW.weights,Tryz.underlying34,hb,lits])
  have hr:reachBytes=140737488351232:=rfl
  rw [hr,List.length_take,List.length_drop] at hk
  have:min l zs.length=l:=by omega
  rw [this] at hk
  omega
 obtain ⟨a,len,cap,zs,hcs,hz,hzb⟩:=z
 obtain ⟨l,rfl,hr,hm,hw,hc⟩:=ReadsInt.ofRowC hz
 exact ⟨a,l,cap,hcs,Kd.C_of_reads (d:=(0:Int)) (h1:=fun _=>rfl) hr,hc,hm,hzb,hw⟩
theorem open_t3 {H:Type}{enc:TypeId×Value→H}{W:World}{fuel:Nat}{cs:List Value}{y:DataW H×List MemPlace}(h:DataW.trod enc Tryz.prog W 0 (fun _=>true) true fuel 3 cs=some y)(hz:∀ n ∈ y.1.weights Tryz.prog 3,n≤reachBytes) :
    ∃ (x:Int),cs=[.int .i64 x]∧(Lit.int .i64 x).wf=true:=by
 obtain ⟨b,e,_,w⟩:=DataW.trod_int Tryz.underlying3 h
 exact ⟨b,e,w⟩
theorem open_t36 {H:Type}{enc:TypeId×Value→H}{W:World}{fuel:Nat}{cs:List Value}{y:DataW H×List MemPlace}(h:DataW.trod enc Tryz.prog W 0 (fun _=>true) true fuel 36 cs=some y)(hz:∀ n ∈ y.1.weights Tryz.prog 36,n≤reachBytes) :
    ∃ (Ax_0:Option Addr) (x_0:List Int) (cx_0:Nat) (Ax_1:Option Addr) (x_1:List Int) (cx_1:Nat) (x_2:Int) (x_3:Int),cs=[.slice Ax_0 x_0.length cx_0,.slice Ax_1 x_1.length cx_1,.int .i64 x_2,.int .i64 x_3]∧Kd.C (Kd.int .u8) W Ax_0 x_0.length x_0∧x_0.length≤cx_0∧x_0.length≤maxLen∧x_0.length * 1≤140737488351232∧(∀ b_ ∈ x_0,(Lit.int .u8 b_).wf=true)∧Kd.C (Kd.int .u8) W Ax_1 x_1.length x_1∧x_1.length≤cx_1∧x_1.length≤maxLen∧x_1.length * 1≤140737488351232∧(∀ b_ ∈ x_1,(Lit.int .u8 b_).wf=true)∧(Lit.int .i64 x_2).wf=true∧(Lit.int .i64 x_3).wf=true:=by
 obtain ⟨ys,n,_,hy,hl,hlen,hf⟩:=DataW.trod_struct Tryz.underlying36 h
 have hl':cs.length=4:=hl.trans (by kernel_rfl)
 clear hl
 match cs,hl' with
 | [v0,v1,v2,v3],_=>
  have h0:DataW.trod enc Tryz.prog W 0 (fun _=>true) true n 34 (([v0,v1,v2,v3].drop 0).take (Tryz.prog.cellsOf 34))=ys[0]?:=hf 0 _ rfl
  have s0:∃ z,ys[0]?=some z:=by
   have e:ys.length=4:=hlen
   exact ⟨_,List.getElem?_eq_getElem (by omega)⟩
  obtain ⟨z0,hz0⟩:=s0
  rw [hz0] at h0
  have e0:Tryz.prog.cellsOf 34=1:=by kernel_rfl
  rw [e0] at h0
  have g0:DataW.trod enc Tryz.prog W 0 (fun _=>true) true n 34 [v0]=some z0:=h0
  have w0:∀ n ∈ z0.1.weights Tryz.prog 34,n≤reachBytes:=fun n hn=>hz n (by
   rw [hy]
   simp only [DataW.weights,Tryz.underlying36]
   exact DataW.weights_mem_each (j:=0) (t:=34) (d:=z0.1) rfl (by rw [List.getElem?_map,hz0];rfl) n hn)
  obtain ⟨Ax_0,x_0,cx_0,q0,rx_0,qx_0,mx_0,zx_0,wx_0⟩:=open_t34 g0 w0
  have h1:DataW.trod enc Tryz.prog W 0 (fun _=>true) true n 34 (([v0,v1,v2,v3].drop 1).take (Tryz.prog.cellsOf 34))=ys[1]?:=hf 1 _ rfl
  have s1:∃ z,ys[1]?=some z:=by
   have e:ys.length=4:=hlen
   exact ⟨_,List.getElem?_eq_getElem (by omega)⟩
  obtain ⟨z1,hz1⟩:=s1
  rw [hz1] at h1
  have e1:Tryz.prog.cellsOf 34=1:=by kernel_rfl
  rw [e1] at h1
  have g1:DataW.trod enc Tryz.prog W 0 (fun _=>true) true n 34 [v1]=some z1:=h1
  have w1:∀ n ∈ z1.1.weights Tryz.prog 34,n≤reachBytes:=fun n hn=>hz n (by
   rw [hy]
   simp only [DataW.weights,Tryz.underlying36]
   exact DataW.weights_mem_each (j:=1) (t:=34) (d:=z1.1) rfl (by rw [List.getElem?_map,hz1];rfl) n hn)
  obtain ⟨Ax_1,x_1,cx_1,q1,rx_1,qx_1,mx_1,zx_1,wx_1⟩:=open_t34 g1 w1
  have h2:DataW.trod enc Tryz.prog W 0 (fun _=>true) true n 3 (([v0,v1,v2,v3].drop 2).take (Tryz.prog.cellsOf 3))=ys[2]?:=hf 2 _ rfl
  have s2:∃ z,ys[2]?=some z:=by
   have e:ys.length=4:=hlen
   exact ⟨_,List.getElem?_eq_getElem (by omega)⟩
  obtain ⟨z2,hz2⟩:=s2
  rw [hz2] at h2
  have e2:Tryz.prog.cellsOf 3=1:=by kernel_rfl
  rw [e2] at h2
  have g2:DataW.trod enc Tryz.prog W 0 (fun _=>true) true n 3 [v2]=some z2:=h2
  have w2:∀ n ∈ z2.1.weights Tryz.prog 3,n≤reachBytes:=fun n hn=>hz n (by
   rw [hy]
   simp only [DataW.weights,Tryz.underlying36]
   exact DataW.weights_mem_each (j:=2) (t:=3) (d:=z2.1) rfl (by rw [List.getElem?_map,hz2];rfl) n hn)
  obtain ⟨x_2,q2,wx_2⟩:=open_t3 g2 w2
  have h3:DataW.trod enc Tryz.prog W 0 (fun _=>true) true n 3 (([v0,v1,v2,v3].drop 3).take (Tryz.prog.cellsOf 3))=ys[3]?:=hf 3 _ rfl
  have s3:∃ z,ys[3]?=some z:=by
   have e:ys.length=4:=hlen
   exact ⟨_,List.getElem?_eq_getElem (by omega)⟩
  obtain ⟨z3,hz3⟩:=s3
  rw [hz3] at h3
  have e3:Tryz.prog.cellsOf 3=1:=by kernel_rfl
  rw [e3] at h3
  have g3:DataW.trod enc Tryz.prog W 0 (fun _=>true) true n 3 [v3]=some z3:=h3
  have w3:∀ n ∈ z3.1.weights Tryz.prog 3,n≤reachBytes:=fun n hn=>hz n (by
   rw [hy]
   simp only [DataW.weights,Tryz.underlying36]
   exact DataW.weights_mem_each (j:=3) (t:=3) (d:=z3.1) rfl (by rw [List.getElem?_map,hz3];rfl) n hn)
  obtain ⟨x_3,q3,wx_3⟩:=open_t3 g3 w3
  refine ⟨Ax_0,x_0,cx_0,Ax_1,x_1,cx_1,x_2,x_3,?_,rx_0,qx_0,mx_0,zx_0,wx_0,rx_1,qx_1,mx_1,zx_1,wx_1,wx_2,wx_3⟩
  simp only [List.cons.injEq,and_true] at q0 q1 q2 q3
  simp [q0,q1,q2,q3]
theorem open_t52 {H:Type}{enc:TypeId×Value→H}{W:World}{fuel:Nat}{cs:List Value}{y:DataW H×List MemPlace}(h:DataW.trod enc Tryz.prog W 0 (fun _=>true) true fuel 52 cs=some y)(hz:∀ n ∈ y.1.weights Tryz.prog 52,n≤reachBytes) :
    ∃ (x:Int),cs=[.int .u16 x]∧(Lit.int .u16 x).wf=true:=by
 obtain ⟨b,e,_,w⟩:=DataW.trod_int Tryz.underlying52 h
 exact ⟨b,e,w⟩
theorem open_t54 {H:Type}{enc:TypeId×Value→H}{W:World}{fuel:Nat}{cs:List Value}{y:DataW H×List MemPlace}(h:DataW.trod enc Tryz.prog W 0 (fun _=>true) true fuel 54 cs=some y)(hz:∀ n ∈ y.1.weights Tryz.prog 54,n≤reachBytes) :
    ∃ (x_0:Int) (x_1:Int) (x_2:Int) (x_3:Int) (x_4:Int) (Ax_5_0:Option Addr) (x_5_0:List Int) (cx_5_0:Nat) (Ax_5_1:Option Addr) (x_5_1:List Int) (cx_5_1:Nat) (x_5_2:Int) (x_5_3:Int),cs=[.int .u8 x_0,.int .u16 x_1,.int .u8 x_2,.int .u8 x_3,.int .u8 x_4,.slice Ax_5_0 x_5_0.length cx_5_0,.slice Ax_5_1 x_5_1.length cx_5_1,.int .i64 x_5_2,.int .i64 x_5_3]∧(Lit.int .u8 x_0).wf=true∧(Lit.int .u16 x_1).wf=true∧(Lit.int .u8 x_2).wf=true∧(Lit.int .u8 x_3).wf=true∧(Lit.int .u8 x_4).wf=true∧Kd.C (Kd.int .u8) W Ax_5_0 x_5_0.length x_5_0∧x_5_0.length≤cx_5_0∧x_5_0.length≤maxLen∧x_5_0.length * 1≤140737488351232∧(∀ b_ ∈ x_5_0,(Lit.int .u8 b_).wf=true)∧Kd.C (Kd.int .u8) W Ax_5_1 x_5_1.length x_5_1∧x_5_1.length≤cx_5_1∧x_5_1.length≤maxLen∧x_5_1.length * 1≤140737488351232∧(∀ b_ ∈ x_5_1,(Lit.int .u8 b_).wf=true)∧(Lit.int .i64 x_5_2).wf=true∧(Lit.int .i64 x_5_3).wf=true:=by
 obtain ⟨ys,n,_,hy,hl,hlen,hf⟩:=DataW.trod_struct Tryz.underlying54 h
 have hl':cs.length=9:=hl.trans (by kernel_rfl)
 clear hl
 match cs,hl' with
 | [v0,v1,v2,v3,v4,v5,v6,v7,v8],_=>
  have h0:DataW.trod enc Tryz.prog W 0 (fun _=>true) true n 5 (([v0,v1,v2,v3,v4,v5,v6,v7,v8].drop 0).take (Tryz.prog.cellsOf 5))=ys[0]?:=hf 0 _ rfl
  have s0:∃ z,ys[0]?=some z:=by
   have e:ys.length=6:=hlen
   exact ⟨_,List.getElem?_eq_getElem (by omega)⟩
  obtain ⟨z0,hz0⟩:=s0
  rw [hz0] at h0
  have e0:Tryz.prog.cellsOf 5=1:=by kernel_rfl
  rw [e0] at h0
  have g0:DataW.trod enc Tryz.prog W 0 (fun _=>true) true n 5 [v0]=some z0:=h0
  have w0:∀ n ∈ z0.1.weights Tryz.prog 5,n≤reachBytes:=fun n hn=>hz n (by
   rw [hy]
   simp only [DataW.weights,Tryz.underlying54]
   exact DataW.weights_mem_each (j:=0) (t:=5) (d:=z0.1) rfl (by rw [List.getElem?_map,hz0];rfl) n hn)
  obtain ⟨x_0,q0,wx_0⟩:=open_t5 g0 w0
  have h1:DataW.trod enc Tryz.prog W 0 (fun _=>true) true n 52 (([v0,v1,v2,v3,v4,v5,v6,v7,v8].drop 1).take (Tryz.prog.cellsOf 52))=ys[1]?:=hf 1 _ rfl
  have s1:∃ z,ys[1]?=some z:=by
   have e:ys.length=6:=hlen
   exact ⟨_,List.getElem?_eq_getElem (by omega)⟩
  obtain ⟨z1,hz1⟩:=s1
  rw [hz1] at h1
  have e1:Tryz.prog.cellsOf 52=1:=by kernel_rfl
  rw [e1] at h1
  have g1:DataW.trod enc Tryz.prog W 0 (fun _=>true) true n 52 [v1]=some z1:=h1
  have w1:∀ n ∈ z1.1.weights Tryz.prog 52,n≤reachBytes:=fun n hn=>hz n (by
   rw [hy]
   simp only [DataW.weights,Tryz.underlying54]
   exact DataW.weights_mem_each (j:=1) (t:=52) (d:=z1.1) rfl (by rw [List.getElem?_map,hz1];rfl) n hn)
  obtain ⟨x_1,q1,wx_1⟩:=open_t52 g1 w1
  have h2:DataW.trod enc Tryz.prog W 0 (fun _=>true) true n 5 (([v0,v1,v2,v3,v4,v5,v6,v7,v8].drop 2).take (Tryz.prog.cellsOf 5))=ys[2]?:=hf 2 _ rfl
  have s2:∃ z,ys[2]?=some z:=by
   have e:ys.length=6:=hlen
   exact ⟨_,List.getElem?_eq_getElem (by omega)⟩
  obtain ⟨z2,hz2⟩:=s2
  rw [hz2] at h2
  have e2:Tryz.prog.cellsOf 5=1:=by kernel_rfl
  rw [e2] at h2
  have g2:DataW.trod enc Tryz.prog W 0 (fun _=>true) true n 5 [v2]=some z2:=h2
  have w2:∀ n ∈ z2.1.weights Tryz.prog 5,n≤reachBytes:=fun n hn=>hz n (by
   rw [hy]
   simp only [DataW.weights,Tryz.underlying54]
   exact DataW.weights_mem_each (j:=2) (t:=5) (d:=z2.1) rfl (by rw [List.getElem?_map,hz2];rfl) n hn)
  obtain ⟨x_2,q2,wx_2⟩:=open_t5 g2 w2
  have h3:DataW.trod enc Tryz.prog W 0 (fun _=>true) true n 5 (([v0,v1,v2,v3,v4,v5,v6,v7,v8].drop 3).take (Tryz.prog.cellsOf 5))=ys[3]?:=hf 3 _ rfl
  have s3:∃ z,ys[3]?=some z:=by
   have e:ys.length=6:=hlen
   exact ⟨_,List.getElem?_eq_getElem (by omega)⟩
  obtain ⟨z3,hz3⟩:=s3
  rw [hz3] at h3
  have e3:Tryz.prog.cellsOf 5=1:=by kernel_rfl
  rw [e3] at h3
  have g3:DataW.trod enc Tryz.prog W 0 (fun _=>true) true n 5 [v3]=some z3:=h3
  have w3:∀ n ∈ z3.1.weights Tryz.prog 5,n≤reachBytes:=fun n hn=>hz n (by
   rw [hy]
   simp only [DataW.weights,Tryz.underlying54]
   exact DataW.weights_mem_each (j:=3) (t:=5) (d:=z3.1) rfl (by rw [List.getElem?_map,hz3];rfl) n hn)
  obtain ⟨x_3,q3,wx_3⟩:=open_t5 g3 w3
  have h4:DataW.trod enc Tryz.prog W 0 (fun _=>true) true n 5 (([v0,v1,v2,v3,v4,v5,v6,v7,v8].drop 4).take (Tryz.prog.cellsOf 5))=ys[4]?:=hf 4 _ rfl
  have s4:∃ z,ys[4]?=some z:=by
   have e:ys.length=6:=hlen
   exact ⟨_,List.getElem?_eq_getElem (by omega)⟩
  obtain ⟨z4,hz4⟩:=s4
  rw [hz4] at h4
  have e4:Tryz.prog.cellsOf 5=1:=by kernel_rfl
  rw [e4] at h4
  have g4:DataW.trod enc Tryz.prog W 0 (fun _=>true) true n 5 [v4]=some z4:=h4
  have w4:∀ n ∈ z4.1.weights Tryz.prog 5,n≤reachBytes:=fun n hn=>hz n (by
   rw [hy]
   simp only [DataW.weights,Tryz.underlying54]
   exact DataW.weights_mem_each (j:=4) (t:=5) (d:=z4.1) rfl (by rw [List.getElem?_map,hz4];rfl) n hn)
  obtain ⟨x_4,q4,wx_4⟩:=open_t5 g4 w4
  have h5:DataW.trod enc Tryz.prog W 0 (fun _=>true) true n 36 (([v0,v1,v2,v3,v4,v5,v6,v7,v8].drop 5).take (Tryz.prog.cellsOf 36))=ys[5]?:=hf 5 _ rfl
  have s5:∃ z,ys[5]?=some z:=by
   have e:ys.length=6:=hlen
   exact ⟨_,List.getElem?_eq_getElem (by omega)⟩
  obtain ⟨z5,hz5⟩:=s5
  rw [hz5] at h5
  have e5:Tryz.prog.cellsOf 36=4:=by kernel_rfl
  rw [e5] at h5
  have g5:DataW.trod enc Tryz.prog W 0 (fun _=>true) true n 36 [v5,v6,v7,v8]=some z5:=h5
  have w5:∀ n ∈ z5.1.weights Tryz.prog 36,n≤reachBytes:=fun n hn=>hz n (by
   rw [hy]
   simp only [DataW.weights,Tryz.underlying54]
   exact DataW.weights_mem_each (j:=5) (t:=36) (d:=z5.1) rfl (by rw [List.getElem?_map,hz5];rfl) n hn)
  obtain ⟨Ax_5_0,x_5_0,cx_5_0,Ax_5_1,x_5_1,cx_5_1,x_5_2,x_5_3,q5,rx_5_0,qx_5_0,mx_5_0,zx_5_0,wx_5_0,rx_5_1,qx_5_1,mx_5_1,zx_5_1,wx_5_1,wx_5_2,wx_5_3⟩:=open_t36 g5 w5
  refine ⟨x_0,x_1,x_2,x_3,x_4,Ax_5_0,x_5_0,cx_5_0,Ax_5_1,x_5_1,cx_5_1,x_5_2,x_5_3,?_,wx_0,wx_1,wx_2,wx_3,wx_4,rx_5_0,qx_5_0,mx_5_0,zx_5_0,wx_5_0,rx_5_1,qx_5_1,mx_5_1,zx_5_1,wx_5_1,wx_5_2,wx_5_3⟩
  simp only [List.cons.injEq,and_true] at q0 q1 q2 q3 q4 q5
  simp [q0,q1,q2,q3,q4,q5]
theorem open_t22 {H:Type}{enc:TypeId×Value→H}{W:World}{fuel:Nat}{cs:List Value}{y:DataW H×List MemPlace}(h:DataW.trod enc Tryz.prog W 0 (fun _=>true) true fuel 22 cs=some y)(hz:∀ n ∈ y.1.weights Tryz.prog 22,n≤reachBytes) :
    ∃ (Ax:Option Addr) (x:List S68) (cx:Nat),cs=[.slice Ax x.length cx]∧Kd.C k68 W Ax x.length x∧x.length≤cx∧OkTxs x:=by
 obtain ⟨A,l,c,e1,e2,e3,e4⟩:=sl_tx h hz
 exact ⟨A,l,c,e1,e2,e3,e4⟩
theorem gl_of_laid {W : World} (h : laidMetH Tryz.prog [("math/bits.deBruijn32tab", Rows.laid_math_bits_deBruijn32tab), ("math/bits.deBruijn64tab", Rows.laid_math_bits_deBruijn64tab), ("internal/strconv.uint64pow10", Rows.laid_internal_strconv_uint64pow10), ("unicode/utf8.acceptRanges", Rows.laid_unicode_utf8_acceptRanges), ("strconv.ErrRange", Rows.laid_strconv_ErrRange), ("strconv.ErrSyntax", Rows.laid_strconv_ErrSyntax), ("unicode/utf8.first", Rows.laid_unicode_utf8_first)] W) : GL W := by
 rw [MakeChecks.laidMetH_plain _ _ _ (by kernel_rfl)] at h
 obtain ⟨ps,⟨g0,t0,cs0,f0,p0,q0,_,_,_,_,⟨g1,t1,cs1,f1,p1,q1,_,_,_,_,⟨g',t',cs,fuel,p,q,hg',ht',hvar,hd,⟨g3,t3,cs3,f3,p3,q3,_,_,_,_,⟨g4,t4,cs4,f4,p4,q4,hg4,ht4,hv4,hd4,⟨g5,t5,cs5,f5,p5,q5,hg5,ht5,hv5,hd5,_,_⟩,_⟩,_⟩,_⟩,_⟩,_⟩,_,_⟩:=h
 have e:(Rows.laid_internal_strconv_uint64pow10:DataW Unit)=Lib.tabData .u64 Lib.pow10Tab:=by kernel_rfl
 rw [e] at hd
 obtain rfl := zE ((show Tryz.prog.globalNamed "internal/strconv.uint64pow10" = some 1 by kernel_rfl).symm.trans hg')
 obtain rfl:=zE ((show (Tryz.prog.globals[1]?).map (·.type)=some 168 by kernel_rfl).symm.trans ht')
 obtain rfl := zE ((show Tryz.prog.globalNamed "strconv.ErrRange" = some 3 by kernel_rfl).symm.trans hg4)
 obtain rfl:=zE ((show (Tryz.prog.globals[3]?).map (·.type)=some 118 by kernel_rfl).symm.trans ht4)
 obtain rfl := zE ((show Tryz.prog.globalNamed "strconv.ErrSyntax" = some 2 by kernel_rfl).symm.trans hg5)
 obtain rfl:=zE ((show (Tryz.prog.globals[2]?).map (·.type)=some 118 by kernel_rfl).symm.trans ht5)
 obtain ⟨tp4,v4,e4⟩:=trod_error Tryz.underlying118 hd4
 obtain ⟨tp5,v5,e5⟩:=trod_error Tryz.underlying118 hd5
 refine ⟨?_,⟨tp5,v5,?_⟩,⟨tp4,v4,?_⟩⟩
 ·unfold Lib.TabIs
  rw [hvar,← Lib.cells_of_tab Tryz.underlying168 Tryz.underlying141 (by kernel_rfl) (by kernel_rfl) hd]
 · rw [hv5];congr 1;cases cs5;simpa using e5
 rw [hv4];congr 1;cases cs4;simpa using e4
end Go.Proofs.YtgfajgkjbckkgaaGreatDoor.PZ
end
section
set_option maxRecDepth 100000
namespace Go.Proofs.YtgfajgkjbckkgaaGreatDoor.PZ
open Go.RowKit Go.Proofs.YtgfajgkjbckkgaaGreatDoorW.PrintWords Go.Proofs.YtgfajgkjbckkgaaGreatDoorW.PrintLast
set_option maxHeartbeats 4000000 in
set_option maxRecDepth 100000 in
theorem eq_rels (A0:Option Addr)(c0:Nat)(l0:List Rl)(A1:Option Addr)(c1:Nat)(l1:List Rl)(w:World)
    (h0:Kd.C k60 w A0 l0.length l0) (hc0:l0.length≤c0) (h1:Kd.C k60 w A1 l1.length l1) (hc1:l1.length≤c1) :
    Calls Tryz.prog 54 #[.slice A0 l0.length c0,.slice A1 l1.length c1,.func (.func 55) #[] #[]] w fun e w'=>e = .returned (.bool (decide (l0=l1)))∧Below w.heap.size w w':=by
 have L0:=zA (fun W (hb:Below w.heap.size w W)=>Kd.C_below h0 hb)
 have L1:=zA (fun W (hb:Below w.heap.size w W)=>Kd.C_below h1 hb)
 have hn:=h0.2.1
 clear h0 h1
 have ef:=enters_of Tryz.func55 (by kernel_rfl) rfl
 by_cases hl:l0.length=l1.length
 rotate_left
 ·have g2:((l0.length:Int) != (l1.length:Int))=true:=by simp;omega
  have g3:((l0.length:Int) == (l1.length:Int))=false:=by simp;omega
  have HN:=zA (show l0≠l1 from fun e=>hl (by rw [e]))
  clear hl
  go_enter Tryz.func54,Tryz.ntmps54
  go_wp2
  go_ret
  exact ⟨by rw [zD HN.out];rfl,Below.refl _ _⟩
 have g1:decide ((l0.length:Int)=(l1.length:Int))=true:=zC (by omega)
 have g2:((l0.length:Int) != (l1.length:Int))=false:=by rw [hl];simp
 have g3:((l0.length:Int) == (l1.length:Int))=true:=by rw [hl];simp
 have HL:=zA hl
 clear hl
 go_enter Tryz.func54,Tryz.ntmps54
 go_wp2
 go_loopg [7,8,9,17] l0.length (fun gg _ _ _ s17 wr=>∃ k:Nat,k≤l0.length∧l0.length - k≤gg∧s17 = .int .i64 k∧Aside0 (Below w.heap.size w wr)∧Aside0 (l0.take k=l1.take k))
 case atStart=>exact ⟨0,by omega,by omega,rfl,⟨Below.refl _ _⟩,⟨rfl⟩⟩
 case round=>
  obtain ⟨k,hk,hg,rfl,HB,HT⟩:=hrel
  by_cases hlt:k<l0.length
  rotate_left
  ·have j1:decide ((k:Int)<(l0.length:Int))=false:=zD (by omega)
   go_wp2
   go_ret
   refine ⟨?_,HB.out⟩
   rw [zC (same_end HL.out (by omega) HT.out)]
   rfl
  have j1:decide ((k:Int)<(l0.length:Int))=true:=zC (by omega)
  obtain ⟨ad,A3,c3,rfl,x0,x1,x2,x3,hx3,HX⟩:=rel_at (L0.out wr HB.out) k hlt
  obtain ⟨ae,B3,d3,rfl,y0,y1,y2,y3,hy3,HY⟩:=rel_at (L1.out wr HB.out) k (by rw [← HL.out];exact hlt)
  generalize hX:l0.getD k ⟨0,0,false,[]⟩=X at *
  generalize hY:l1.getD k ⟨0,0,false,[]⟩=Y at *
  have p0:(0≤(k:Int))=True:=eq_true (by omega)
  have m2:decide (k<l0.length)=true:=zC hlt
  have m3:((k:Int)<(l0.length:Int))=True:=eq_true (by omega)
  have m4:(k<l0.length)=True:=eq_true hlt
  have hlt1:k<l1.length:=by rw [← HL.out];exact hlt
  have n1:decide ((k:Int)<(l1.length:Int))=true:=zC (by omega)
  have n2:decide (k<l1.length)=true:=zC hlt1
  have n3:((k:Int)<(l1.length:Int))=True:=eq_true (by omega)
  have n4:(k<l1.length)=True:=eq_true hlt1
  have HF:=zA (fun W (hb:Below wr.heap.size wr W)=>same_rel X Y A3 c3 B3 d3 W (Kd.C_below HX hb) hx3 (Kd.C_below HY hb) hy3)
  clear HX HY hx3 hy3
  have z0:=fun o=>((below_alloc (Below.refl wr.heap.size wr) o).cell (World.block_lt_of_cell? wr _ y0)).trans y0
  have z1:=fun o=>((below_alloc (Below.refl wr.heap.size wr) o).cell (World.block_lt_of_cell? wr _ y1)).trans y1
  have z2:=fun o=>((below_alloc (Below.refl wr.heap.size wr) o).cell (World.block_lt_of_cell? wr _ y2)).trans y2
  have z3:=fun o=>((below_alloc (Below.refl wr.heap.size wr) o).cell (World.block_lt_of_cell? wr _ y3)).trans y3
  cases hq:decide (X=Y) with
  | false=>
   rw [hq] at HF
   go_wp2_with (go_at_call 55;(refine (HF.out _ (below_alloc (below_alloc (Below.refl _ _) _) _)).mono ?_);rintro e w5 ⟨rfl,hb5⟩;have hB:=below_step (below_alloc (below_alloc HB.out _) _) hb5;clear hb5)
   go_ret
   refine ⟨?_,hB⟩
   have hne:l0≠l1:=same_not (⟨0,0,false,[]⟩:Rl) (k:=k) (by rw [hX,hY];exact of_decide_eq_false hq)
   rw [zD hne]
   rfl
  | true=>
   rw [hq] at HF
   go_wp2_with (go_at_call 55;(refine (HF.out _ (below_alloc (below_alloc (Below.refl _ _) _) _)).mono ?_);rintro e w5 ⟨rfl,hb5⟩;have hB:=below_step (below_alloc (below_alloc HB.out _) _) hb5;clear hb5)
   go_roundg (l0.length - (k+1))
   case measure=>omega
   case rel=>exact ⟨k+1,by omega,by omega,by go_num,⟨hB⟩,⟨same_more (⟨0,0,false,[]⟩:Rl) HL.out hlt HT.out (by rw [hX,hY];exact zB hq)⟩⟩
theorem same_1 (A0:Option Addr)(c0:Nat)(l0:List Rl)(A1:Option Addr)(c1:Nat)(l1:List Rl)(w:World)
    (h0:Kd.C k60 w A0 l0.length l0) (hc0:l0.length≤c0) (h1:Kd.C k60 w A1 l1.length l1) (hc1:l1.length≤c1) :
    Calls Tryz.prog 53 #[.slice A0 l0.length c0,.slice A1 l1.length c1] w fun e w'=>e = .returned (.bool (decide (l0=l1)))∧Below w.heap.size w w':=by
 have HE:=eq_rels A0 c0 l0 A1 c1 l1 w h0 hc0 h1 hc1
 clear h0 h1 hc0 hc1
 go_enter Tryz.func53,Tryz.ntmps53
 go_wp2_with (go_at_call 54;refine HE.mono ?_;rintro e w5 ⟨rfl,hb5⟩)
 go_ret
 exact ⟨rfl,hb5⟩
set_option maxHeartbeats 4000000 in
set_option maxRecDepth 100000 in
theorem eq_conds (A0:Option Addr)(c0:Nat)(l0:List (List Rl))(A1:Option Addr)(c1:Nat)(l1:List (List Rl))(w:World)
    (h0:Kd.C (Kd.slice 60 k60) w A0 l0.length l0) (hc0:l0.length≤c0) (h1:Kd.C (Kd.slice 60 k60) w A1 l1.length l1) (hc1:l1.length≤c1) :
    Calls Tryz.prog 52 #[.slice A0 l0.length c0,.slice A1 l1.length c1,.func (.func 53) #[] #[]] w fun e w'=>e = .returned (.bool (decide (l0=l1)))∧Below w.heap.size w w':=by
 have L0:=zA (fun W (hb:Below w.heap.size w W)=>Kd.C_below h0 hb)
 have L1:=zA (fun W (hb:Below w.heap.size w W)=>Kd.C_below h1 hb)
 have hn:=h0.2.1
 clear h0 h1
 have ef:=enters_of Tryz.func53 (by kernel_rfl) rfl
 by_cases hl:l0.length=l1.length
 rotate_left
 ·have g2:((l0.length:Int) != (l1.length:Int))=true:=by simp;omega
  have g3:((l0.length:Int) == (l1.length:Int))=false:=by simp;omega
  have HN:=zA (show l0≠l1 from fun e=>hl (by rw [e]))
  clear hl
  go_enter Tryz.func52,Tryz.ntmps52
  go_wp2
  go_ret
  exact ⟨by rw [zD HN.out];rfl,Below.refl _ _⟩
 have g1:decide ((l0.length:Int)=(l1.length:Int))=true:=zC (by omega)
 have g2:((l0.length:Int) != (l1.length:Int))=false:=by rw [hl];simp
 have g3:((l0.length:Int) == (l1.length:Int))=true:=by rw [hl];simp
 have HL:=zA hl
 clear hl
 go_enter Tryz.func52,Tryz.ntmps52
 go_wp2
 go_loopg [7,8,9,17] l0.length (fun gg _ _ _ s17 wr=>∃ k:Nat,k≤l0.length∧l0.length - k≤gg∧s17 = .int .i64 k∧Aside0 (Below w.heap.size w wr)∧Aside0 (l0.take k=l1.take k))
 case atStart=>exact ⟨0,by omega,by omega,rfl,⟨Below.refl _ _⟩,⟨rfl⟩⟩
 case round=>
  obtain ⟨k,hk,hg,rfl,HB,HT⟩:=hrel
  by_cases hlt:k<l0.length
  rotate_left
  ·have j1:decide ((k:Int)<(l0.length:Int))=false:=zD (by omega)
   go_wp2
   go_ret
   refine ⟨?_,HB.out⟩
   rw [zC (same_end HL.out (by omega) HT.out)]
   rfl
  have j1:decide ((k:Int)<(l0.length:Int))=true:=zC (by omega)
  obtain ⟨ad,A3,c3,rfl,x0,hx3,HX⟩:=row_at (L0.out wr HB.out) k hlt
  obtain ⟨ae,B3,d3,rfl,y0,hy3,HY⟩:=row_at (L1.out wr HB.out) k (by rw [← HL.out];exact hlt)
  generalize hX:l0.getD k []=X at *
  generalize hY:l1.getD k []=Y at *
  have p0:(0≤(k:Int))=True:=eq_true (by omega)
  have m2:decide (k<l0.length)=true:=zC hlt
  have m3:((k:Int)<(l0.length:Int))=True:=eq_true (by omega)
  have m4:(k<l0.length)=True:=eq_true hlt
  have hlt1:k<l1.length:=by rw [← HL.out];exact hlt
  have n1:decide ((k:Int)<(l1.length:Int))=true:=zC (by omega)
  have n2:decide (k<l1.length)=true:=zC hlt1
  have n3:((k:Int)<(l1.length:Int))=True:=eq_true (by omega)
  have n4:(k<l1.length)=True:=eq_true hlt1
  have HF:=zA (fun W (hb:Below wr.heap.size wr W)=>same_1 A3 c3 X B3 d3 Y W (Kd.C_below HX hb) hx3 (Kd.C_below HY hb) hy3)
  clear HX HY hx3 hy3
  cases hq:decide (X=Y) with
  | false=>
   rw [hq] at HF
   go_wp2_with (go_at_call 53;(refine (HF.out _ (Below.refl _ _)).mono ?_);rintro e w5 ⟨rfl,hb5⟩;have hB:=below_step HB.out hb5;clear hb5)
   go_ret
   refine ⟨?_,hB⟩
   have hne:l0≠l1:=same_not ([]:List Rl) (k:=k) (by rw [hX,hY];exact of_decide_eq_false hq)
   rw [zD hne]
   rfl
  | true=>
   rw [hq] at HF
   go_wp2_with (go_at_call 53;(refine (HF.out _ (Below.refl _ _)).mono ?_);rintro e w5 ⟨rfl,hb5⟩;have hB:=below_step HB.out hb5;clear hb5)
   go_roundg (l0.length - (k+1))
   case measure=>omega
   case rel=>exact ⟨k+1,by omega,by omega,by go_num,⟨hB⟩,⟨same_more ([]:List Rl) HL.out hlt HT.out (by rw [hX,hY];exact zB hq)⟩⟩
def rule_Same.f (l0 l1:List (List Rl)):Option Bool:=some (decide (l0=l1))
set_option maxHeartbeats 2000000 in
set_option maxRecDepth 100000 in
theorem rule_Same.calls (A0:Option Addr)(c0:Nat)(l0:List (List Rl))(A1:Option Addr)(c1:Nat)(l1:List (List Rl))(r:Bool)(w:World)
    (hr0:Kd.C (Kd.slice 60 k60) w A0 l0.length l0) (hc0:l0.length≤c0) (hr1:Kd.C (Kd.slice 60 k60) w A1 l1.length l1) (hc1:l1.length≤c1) (h:rule_Same.f l0 l1=some r) :
    Calls Tryz.prog 33 #[.slice A0 l0.length c0,.slice A1 l1.length c1] w fun e w'=>e = .returned (.bool r)∧Below w.heap.size w w':=by
 obtain rfl:=zE h
 have HE:=eq_conds A0 c0 l0 A1 c1 l1 w hr0 hc0 hr1 hc1
 clear hr0 hr1 hc0 hc1 h
 go_enter Tryz.func33,Tryz.ntmps33
 go_wp2_with (go_at_call 52;refine HE.mono ?_;rintro e w5 ⟨rfl,hb5⟩)
 go_ret
 exact ⟨rfl,hb5⟩
section
def combR (pre:List (Rl×Bool))(d:Nat):Option (List (Rl×Bool))×Nat→Option (List (Rl×Bool))×Nat
  | (none,j)=>(none,d+j)
  | (some r,j)=>(some (pre ++ r),d+j)
theorem combR_combR (l m:List (Rl×Bool))(d e:Nat)(p:Option (List (Rl×Bool))×Nat):combR l d (combR m e p)=combR (l ++ m) (d+e) p:=by
 rcases p with ⟨_|r,j⟩
 · simp only [combR,Nat.add_assoc]
 simp only [combR,Nat.add_assoc,List.append_assoc]
theorem combR_nil (p:Option (List (Rl×Bool))×Nat):combR [] 0 p=p:=by rcases p with ⟨_|r,j⟩ <;> simp [combR]
theorem rels_none {t:List Int}{n:Nat}(h:relP t=(none,n)):relsP t=(none,n):=by rw [relsP_eq,h]
section
variable {t:List Int}{n:Nat}{x:Rl}(h:relP t=(some x,n))
include h
theorem rels_end (hu:t.drop (n+bl (t.drop n))=[]):relsP t=(some [(x,false)],n+bl (t.drop n)):=by
 rw [relsP_eq,h]
 simp only [hu,if_true]
theorem rels_or (hu:t.drop (n+bl (t.drop n))≠[])(hw:wordP (t.drop (n+bl (t.drop n)))=wordOr):relsP t=combR [(x,true)] (n+bl (t.drop n)+2) (relsP (t.drop (n+bl (t.drop n)+2))):=by
 rw [relsP_eq,h]
 simp only [if_neg hu,if_pos hw]
 rcases relsP (t.drop (n+bl (t.drop n)+2)) with ⟨_|r,j⟩ <;> rfl
theorem rels_and (hu:t.drop (n+bl (t.drop n))≠[])(hw:wordP (t.drop (n+bl (t.drop n)))=wordAnd):relsP t=combR [(x,false)] (n+bl (t.drop n)+3) (relsP (t.drop (n+bl (t.drop n)+3))):=by
 have hne:¬ wordP (t.drop (n+bl (t.drop n)))=wordOr:=by rw [hw];decide
 rw [relsP_eq,h]
 simp only [if_neg hu,if_neg hne,if_pos hw]
 rcases relsP (t.drop (n+bl (t.drop n)+3)) with ⟨_|r,j⟩ <;> rfl
theorem rels_bad (hu:t.drop (n+bl (t.drop n))≠[])(h1:wordP (t.drop (n+bl (t.drop n)))≠wordOr)(h2:wordP (t.drop (n+bl (t.drop n)))≠wordAnd):relsP t=(none,n+bl (t.drop n)):=by
 rw [relsP_eq,h]
 simp only [if_neg hu,if_neg h1,if_neg h2]
end
theorem rowsOf_pos (l:List Rl)(r:List (Rl×Bool)):0<(rowsOf l r).length:=by
 induction r generalizing l with
 | nil=>simp [rowsOf]
 | cons x r ih=>obtain ⟨x,_|_⟩:=x <;> simp [rowsOf,ih]
theorem rowsOf_len (l:List Rl)(r:List (Rl×Bool)):(rowsOf l r).length≤r.length+1:=by
 induction r generalizing l with
 | nil=>simp [rowsOf]
 | cons x r ih=>
  obtain ⟨x,_|_⟩:=x
  · have:=ih (l ++ [x]);simp [rowsOf];omega
  have:=ih [];simp [rowsOf];omega
theorem rowsOf_row (r:List (Rl×Bool)):∀ (l:List Rl) (i:Nat),((rowsOf l r).getD i []).length≤l.length+r.length:=by
 induction r with
 | nil=>
  intro l i
  cases i <;> simp [rowsOf]
 | cons x r ih=>
  intro l i
  obtain ⟨x,_|_⟩:=x
  ·have:=ih (l ++ [x]) i
   simp only [rowsOf]
   simp only [List.length_append,List.length_cons,List.length_nil] at this ⊢
   omega
  simp only [rowsOf]
  cases i with
  | zero=>simp
  | succ i=>
   rw [List.getD_cons_succ]
   have:=ih [] i
   simp only [List.length_cons,List.length_nil] at this ⊢
   omega
theorem rowsOf_and (x:Rl):∀ (pre:List (Rl×Bool)) (l:List Rl),rowsOf l (pre ++ [(x,false)])=(rowsOf l pre).set ((rowsOf l pre).length - 1) ((rowsOf l pre).getD ((rowsOf l pre).length - 1) [] ++ [x])
  | [],l=>by simp [rowsOf]
  | (y,false) :: pre,l=>by
    rw [List.cons_append]
    simp only [rowsOf]
    exact rowsOf_and x pre (l ++ [y])
  | (y,true) :: pre,l=>by
    have hp:=rowsOf_pos [] pre
    have hl:(rowsOf [] pre).length=((rowsOf [] pre).length - 1)+1:=by omega
    rw [List.cons_append]
    simp only [rowsOf]
    rw [rowsOf_and x pre [],List.length_cons,Nat.add_sub_cancel]
    conv=>rhs;rw [hl,List.set_cons_succ,List.getD_cons_succ]
theorem rowsOf_orr (x:Rl):∀ (pre:List (Rl×Bool)) (l:List Rl),rowsOf l (pre ++ [(x,true)])=rowsOf l (pre ++ [(x,false)]) ++ [[]]
  | [],l=>by simp [rowsOf]
  | (y,false) :: pre,l=>by
    rw [List.cons_append,List.cons_append]
    simp only [rowsOf]
    exact rowsOf_orr x pre (l ++ [y])
  | (y,true) :: pre,l=>by
    rw [List.cons_append,List.cons_append]
    simp only [rowsOf]
    rw [rowsOf_orr x pre []]
    rfl
theorem fullP_snoc (pre:List (Rl×Bool))(x:Rl)(o:Bool):fullP (pre ++ [(x,o)])=((fullP pre || decide (20<x.f3.length)) || decide (20<pre.length+1)):=by
 unfold fullP
 rw [List.any_append,List.length_append]
 simp only [List.any_cons,List.any_nil,Bool.or_false,List.length_cons,List.length_nil,Nat.zero_add]
 by_cases h:20<pre.length+1
 · simp [h]
 have:¬ 20<pre.length:=by omega
 simp [h,this]
theorem prefix_len':∀ {x t:List Int},x.isPrefixOf t=true→x.length≤t.length
  | [],_,_=>by simp
  | _ :: _,[],h=>by simp [List.isPrefixOf] at h
  | a :: x,b :: t,h=>by
    simp only [List.isPrefixOf,Bool.and_eq_true] at h
    have:=prefix_len' h.2
    simp;omega
theorem sign_len {x t:List Int}(h:signP x t=true):bl t+x.length≤t.length:=by
 have h2:bl t≤t.length:=runL_le isBl t
 unfold signP at h
 have:=prefix_len' h
 rw [List.length_drop] at this
 omega
theorem one_le {t:List Int}{r:Rg}{n:Nat}(h:oneP t=(some r,n)):n≤t.length:=by
 unfold oneP at h
 rcases h1:numP 0 t with ⟨_|a,m⟩
 · rw [h1] at h;cases h
 rw [h1] at h
 have ha:=num_pos' h1
 simp only at h
 split at h
 ·rename_i hs
  have hl:=sign_len hs
  rcases h2:numP (a+1) (t.drop (m+(bl (t.drop m)+2))) with ⟨_|b,j⟩
  · rw [h2] at h;cases h
  rw [h2] at h
  have hb:=num_pos' h2
  simp only [Prod.mk.injEq] at h
  simp only [List.length_drop,List.length_cons,List.length_nil] at hb hl
  omega
 simp only [Prod.mk.injEq] at h
 omega
theorem rng_le:∀ (f:Nat) (t:List Int) (l:List Rg) (n:Nat),rngF f t=(some l,n)→n≤t.length
  | 0,_,_,_,h=>by cases h
  | f+1,t,l,n,h=>by
    rw [rngF] at h
    rcases h1:oneP t with ⟨_|a,m⟩
    · rw [h1] at h;cases h
    rw [h1] at h
    have ha:=one_le h1
    simp only at h
    split at h
    · rename_i hs
      have hl:=sign_len hs
      rcases h2:rngF f (t.drop (m+(bl (t.drop m)+1))) with ⟨_|b,j⟩
      · rw [h2] at h;cases h
      rw [h2] at h
      have hb:=rng_le f _ _ _ h2
      simp only [Prod.mk.injEq] at h
      simp only [List.length_drop,List.length_cons,List.length_nil] at hb hl
      omega
    · simp only [Prod.mk.injEq] at h
      omega
theorem rel_le' {t:List Int}{x:Rl}{n:Nat}(h:relP t=(some x,n)):n≤t.length:=by
 unfold relP at h
 rcases h1:opP t with ⟨_|c,m⟩
 · rw [h1] at h;cases h
 rw [h1] at h
 have b1:m≤t.length:=by
  unfold opP at h1
  have hbl:bl t≤t.length:=runL_le isBl t
  have h3:=runL_le isLo (t.drop (bl t))
  rw [List.length_drop] at h3
  split at h1
  ·rename_i hc
   have:=congrArg Prod.snd h1
   simp only at this
   omega
  cases h1
 simp only at h
 rcases h2:modP (t.drop m) with ⟨_|v,j⟩
 · rw [h2] at h;cases h
 rw [h2] at h
 have b2:m+j≤t.length:=by
  unfold modP at h2
  split at h2
  ·rename_i hs
   have hl:=sign_len hs
   rcases h3:numP 1 ((t.drop m).drop (bl (t.drop m)+1)) with ⟨_|b,q⟩
   · rw [h3] at h2;cases h2
   rw [h3] at h2
   have hb:=num_pos' h3
   simp only [Prod.mk.injEq] at h2
   simp only [List.length_drop,List.length_cons,List.length_nil] at hb hl
   omega
  simp only [Prod.mk.injEq] at h2
  omega
 simp only at h
 rcases h3:notP (t.drop (m+j)) with ⟨_|b,i⟩
 · rw [h3] at h;cases h
 rw [h3] at h
 have b3:m+j+i≤t.length:=by
  unfold notP at h3
  split at h3
  ·rename_i hs
   have hl:=sign_len hs
   simp only [Prod.mk.injEq] at h3
   simp only [List.length_drop,List.length_cons,List.length_nil] at hl
   omega
  split at h3
  ·rename_i hs
   have hl:=sign_len hs
   simp only [Prod.mk.injEq] at h3
   simp only [List.length_drop,List.length_cons,List.length_nil] at hl
   omega
  cases h3
 simp only at h
 rcases h4:rngP (t.drop (m+j+i)) with ⟨_|l,q⟩
 · rw [h4] at h;cases h
 rw [h4] at h
 have b4:=rng_le _ _ _ _ h4
 simp only [Prod.mk.injEq] at h
 rw [List.length_drop] at b4
 omega
end
theorem good_or {a:List (Rl×Bool)}{x:Rl}{o o':Bool}{r:List (Rl×Bool)}(ha:∀ y ∈ a ++ [(x,o)],GoodX y.1)(hr:∀ y ∈ r,GoodX y.1):∀ y ∈ a ++ (x,o') :: r,GoodX y.1:=by
 intro y hy
 rcases List.mem_append.1 hy with h|h
 · exact ha y (List.mem_append_left _ h)
 rcases List.mem_cons.1 h with rfl|h
 · exact ha (x,o) (by simp)
 exact hr y h
theorem ends_more {a:List (Rl×Bool)}{r:List (Rl×Bool)}(h:Ends r):Ends (a ++ r):=by
 obtain ⟨b,y,rfl⟩:=h
 exact ⟨a ++ b,y,by simp⟩
theorem ends_ne {r:List (Rl×Bool)}(h:Ends r):r≠[]:=by
 obtain ⟨b,y,rfl⟩:=h
 simp
theorem parse_or {c d:List (List Rl)}(hc:rightP c=true)(hd:rightP d=true) :
    (parseP (condT [32] c ++ ([32,111,114,32] ++ condT [32] d))).2.2=11∨((parseP (condT [32] c ++ ([32,111,114,32] ++ condT [32] d))).2.2=0∧(parseP (condT [32] c ++ ([32,111,114,32] ++ condT [32] d))).1=c ++ d):=by
 obtain ⟨r1,⟨a,x,rfl⟩,g1,e1,t1,_,_⟩:=right_runs hc
 obtain ⟨r2,E2,g2,e2,t2,_,_⟩:=right_runs hd
 have ht:condT [32] c ++ ([32,111,114,32] ++ condT [32] d)=[] ++ (runT [32] (a ++ (x,true) :: r2) ++ []):=by
  rw [t1,t2,runT_join [32] a x true (ends_ne E2)]
  simp [wrd,wordOr]
 rw [ht,parse_read sp_one bls_nil bls_nil (good_or g1 g2) (ends_more (a:=a) (by
  obtain ⟨b,y,rfl⟩:=E2
  exact ⟨(x,true) :: b,y,rfl⟩))]
 split
 · exact .inl rfl
 split
 · exact .inl rfl
 exact .inr ⟨rfl,by rw [rowsOf_or,e1,e2]⟩
theorem parse_and {c d:List (List Rl)}(hc:rightP c=true)(hd:rightP d=true) :
    (parseP (condT [32] c ++ ([32,97,110,100,32] ++ condT [32] d))).2.2=11∨((parseP (condT [32] c ++ ([32,97,110,100,32] ++ condT [32] d))).2.2=0∧∀ m n,c=[m]→d=[n]→(parseP (condT [32] c ++ ([32,97,110,100,32] ++ condT [32] d))).1=[m ++ n]):=by
 obtain ⟨r1,⟨a,x,rfl⟩,g1,e1,t1,_,_⟩:=right_runs hc
 obtain ⟨r2,E2,g2,e2,t2,_,_⟩:=right_runs hd
 have ht:condT [32] c ++ ([32,97,110,100,32] ++ condT [32] d)=[] ++ (runT [32] (a ++ (x,false) :: r2) ++ []):=by
  rw [t1,t2,runT_join [32] a x false (ends_ne E2)]
  simp [wrd,wordAnd]
 rw [ht,parse_read sp_one bls_nil bls_nil (good_or g1 g2) (ends_more (a:=a) (by
  obtain ⟨b,y,rfl⟩:=E2
  exact ⟨(x,false) :: b,y,rfl⟩))]
 split
 · exact .inl rfl
 split
 · exact .inl rfl
 refine .inr ⟨rfl,fun m n hm hn=>?_⟩
 rw [hm] at e1
 rw [hn] at e2
 obtain ⟨b,y,rfl⟩:=E2
 obtain ⟨o1,m1⟩:=rowsOf_one a [] m x e1
 obtain ⟨o2,m2⟩:=rowsOf_one b [] n y e2
 show rowsOf [] (a ++ (x,false) :: (b ++ [(y,false)]))=_
 rw [rowsOf_ands _ _ (fun z hz=>by
  rcases List.mem_append.1 hz with h|h
  · exact o1 z h
  rcases List.mem_cons.1 h with rfl|h
  · rfl
  rcases List.mem_append.1 h with h|h
  · exact o2 z h
  rw [List.mem_singleton.1 h]),m1,m2]
 simp
def dbl (l:List Int):List Int:=l.flatMap fun c=>if c=32 then [32,32] else [c]
theorem dbl_append (a b:List Int):dbl (a ++ b)=dbl a ++ dbl b:=by simp [dbl]
theorem dbl_id:∀ {l:List Int},(∀ c ∈ l,c≠32)→dbl l=l
  | [],_=>rfl
  | c :: l,h=>by
    have:=dbl_id (l:=l) (fun x hx=>h x (by simp [hx]))
    unfold dbl at this ⊢
    rw [List.flatMap_cons,if_neg (h c (by simp)),this]
    rfl
theorem pw_no {n:Int}(h:0≤n):∀ c ∈ pw n,c≠32:=by
 intro c hc
 have:=pw_di h c hc
 unfold isDi at this
 simp at this
 omega
theorem rgT_no {r:Rg}(h:GoodG r):∀ c ∈ rgT r,c≠32:=by
 intro c hc
 unfold rgT at hc
 split at hc
 ·rcases List.mem_append.1 hc with hc|hc
  ·rcases List.mem_append.1 hc with hc|hc
   · exact pw_no h.1 c hc
   simp at hc;omega
  exact pw_no (by have:=h.1;have:=h.2.1;omega) c hc
 exact pw_no h.1 c hc
theorem joinG_no {l:List Rg}(h:∀ r ∈ l,GoodG r):∀ c ∈ joinT [44] (l.map rgT),c≠32:=by
 cases l with
 | nil=>simp [joinT]
 | cons r l=>
  intro c hc
  simp only [List.map_cons,joinT] at hc
  rcases List.mem_append.1 hc with hc|hc
  · exact rgT_no (h r (by simp)) c hc
  obtain ⟨y,hy,hc⟩:=List.mem_flatMap.1 hc
  obtain ⟨s,hs,rfl⟩:=List.mem_map.1 hy
  rcases List.mem_append.1 hc with hc|hc
  · simp at hc;omega
  exact rgT_no (h s (by simp [hs])) c hc
theorem dbl_rel {x:Rl}(h:GoodX x):dbl (relT [32] x)=relT [32,32] x:=by
 obtain ⟨c,n,b,l⟩:=x
 obtain ⟨g0,g1,g2,g3,g4⟩:=h
 simp only at g0 g1 g2 g3 g4
 have e1:dbl [c]=[c]:=dbl_id (by intro z hz;rw [List.mem_singleton.1 hz];exact (op_low g0).2)
 have e2:dbl (modT [32] n)=modT [32,32] n:=by
  unfold modT
  split
  ·simp only [dbl_append]
   rw [dbl_id (pw_no g1)]
   rfl
  rfl
 have e3:dbl (eqT b)=eqT b:=by cases b <;> rfl
 have e4:dbl [32]=[32,32]:=rfl
 rw [relT_eq,relT_eq]
 simp only [dbl_append,e1,e2,e3,e4,dbl_id (joinG_no g4)]
theorem dbl_run:∀ (r:List (Rl×Bool)),(∀ x ∈ r,GoodX x.1)→dbl (runT [32] r)=runT [32,32] r
  | [],_=>rfl
  | [(x,o)],h=>dbl_rel (h (x,o) (by simp))
  | (x,o) :: y :: r,h=>by
    have ih:=dbl_run (y :: r) (fun z hz=>h z (by simp at hz ⊢;right;exact hz))
    have e3:dbl (wrd o)=wrd o:=by cases o <;> rfl
    have e4:dbl [32]=[32,32]:=rfl
    rw [runT_cons [32] x o (show y :: r≠[] by simp),runT_cons [32,32] x o (show y :: r≠[] by simp)]
    simp only [dbl_append,e3,e4,ih,dbl_rel (h (x,o) (by simp))]
theorem parse_blanks {c:List (List Rl)}(hc:rightP c=true):parseP ([32,32] ++ (dbl (condT [32] c) ++ [32]))=if 400<([32,32] ++ (dbl (condT [32] c) ++ [32])).length then ([],0,11) else (c,0,0):=by
 obtain ⟨r,E,g,e,t,f,_⟩:=right_runs hc
 rw [t,dbl_run r g,parse_read sp_two (fun c hc=>by simp at hc;omega) (fun c hc=>by simp at hc;omega) g E,f,e]
 split
 · rfl
 rfl
set_option maxHeartbeats 2000000 in
set_option maxRecDepth 100000 in
theorem in_1 (x:Rg)(gn:Nat)(n:Int)(W:World)(hn:W.cell? ⟨gn,0,none⟩=some (.int .i64 n)) :
    Calls Tryz.prog 82 #[.agg #[.int .i64 x.f0,.int .i64 x.f1],.pointer (some ⟨gn,0,none⟩)] W fun e w'=>e = .returned (.bool (decide (n≥x.f0) && decide (n≤x.f1)))∧Below W.heap.size W w':=by
 obtain ⟨a,b⟩:=x
 have z0:=fun o=>((below_alloc (Below.refl W.heap.size W) o).cell (World.block_lt_of_cell? W _ hn)).trans hn
 simp only
 cases h1:decide (n≥a) with
 | false=>
  go_enter Tryz.func82,Tryz.ntmps82
  go_wp2
  go_ret
  exact ⟨rfl,below_alloc (Below.refl _ _) _⟩
 | true=>
  go_enter Tryz.func82,Tryz.ntmps82
  go_wp2
  go_ret
  exact ⟨rfl,below_alloc (Below.refl _ _) _⟩
set_option maxHeartbeats 2000000 in
set_option maxRecDepth 100000 in
theorem in_2 (x:Rg)(gw gl:Nat)(wh:Bool)(A:Option Addr)(n c:Nat)(r:Bool)(W:World)(hw:W.cell? ⟨gw,0,none⟩=some (.bool wh))(hl:W.cell? ⟨gl,0,none⟩=some (.slice A n c))
    (hI:wh=true→∀ w',Below W.heap.size W w'→Calls Tryz.prog 84 #[.slice A n c,.int .i64 x.f0,.int .i64 x.f1] w' fun e w2=>e = .returned (.bool r)∧Below w'.heap.size w' w2) :
    Calls Tryz.prog 83 #[.agg #[.int .i64 x.f0,.int .i64 x.f1],.pointer (some ⟨gw,0,none⟩),.pointer (some ⟨gl,0,none⟩)] W fun e w'=>e = .returned (.bool (wh && r))∧Below W.heap.size W w':=by
 obtain ⟨a,b⟩:=x
 have z0:=fun o=>((below_alloc (Below.refl W.heap.size W) o).cell (World.block_lt_of_cell? W _ hw)).trans hw
 have z1:=fun o=>((below_alloc (Below.refl W.heap.size W) o).cell (World.block_lt_of_cell? W _ hl)).trans hl
 simp only at hI ⊢
 cases wh with
 | false=>
  clear hI
  go_enter Tryz.func83,Tryz.ntmps83
  go_wp2
  go_ret
  exact ⟨rfl,below_alloc (Below.refl _ _) _⟩
 | true=>
  have HI:=zA (hI rfl)
  clear hI
  go_enter Tryz.func83,Tryz.ntmps83
  go_wp2_with (go_at_call 84;(refine (HI.out _ (below_alloc (Below.refl _ _) _)).mono ?_);rintro e w5 ⟨rfl,hb5⟩;have hB:=below_step (below_alloc (Below.refl _ _) _) hb5;clear hb5)
  go_ret
  exact ⟨rfl,hB⟩
end Go.Proofs.YtgfajgkjbckkgaaGreatDoor.PZ
end
