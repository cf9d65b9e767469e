/- Texts of this seat, joined. Conditions: none beyond each statement's own. -/
import Derived.Test.YtklebhlanidloaaGreatDoorRows
import Derived.ProofKit
import Derived.OpenShut
import Derived.LaidMore
import Derived.ChangeSlices
import Derived.Test.YtklebhlanidloaaGreatDoorD04
import Derived.ChangeSame
import Derived.Lib.SliceRun
import Derived.Laws.Cells
import Derived.MapKept
set_option linter.all false
section
set_option maxRecDepth 100000
namespace Go.Proofs.YtklebhlanidloaaGreatDoor.PZ
open Go.ChangeShapes Go.WideShapes Go.ChangeAt Go.RowKit Go.Proofs.YtklebhlanidloaaGreatDoorW.PrintWords
theorem open_t21 {H:Type}{enc:TypeId×Value→H}{W:World}{fuel:Nat}{cs:List Value}{y:DataW H×List MemPlace}(h:DataW.trod enc Tryz.prog W 0 (fun _=>true) true fuel 21 cs=some y)(hz:∀ n ∈ y.1.weights Tryz.prog 21,n≤reachBytes) :
    ∃ (x:Int),cs=[.int .i32 x]∧(Lit.int .i32 x).wf=true:=by
 obtain ⟨b,e,_,w⟩:=DataW.trod_int Tryz.underlying21 h
 exact ⟨b,e,w⟩
theorem open_t24 {H:Type}{enc:TypeId×Value→H}{W:World}{fuel:Nat}{cs:List Value}{y:DataW H×List MemPlace}(h:DataW.trod enc Tryz.prog W 0 (fun _=>true) true fuel 24 cs=some y)(hz:∀ n ∈ y.1.weights Tryz.prog 24,n≤reachBytes) :
    ∃ (Ax:Option Addr) (x:List S114) (cx:Nat),cs=[.slice Ax x.length cx]∧Kd.C k114 W Ax x.length x∧x.length≤cx∧x.length≤maxLen∧x.length * 16≤140737488351232:=by
 rcases DataW.trod_slice Tryz.underlying24 h with ⟨hcs,_⟩|⟨a,len,cap,elems,rest,n,_,hcs,hx,_,hl,hm,hlen,hel,_,_⟩
 · exact ⟨none,[],0,hcs,⟨rfl,by simp,fun hn=>absurd hn (by simp)⟩,by simp,by simp,by simp⟩
 have hC:Tryz.prog.cellsOf 114=2:=by kernel_rfl
 have each:∀ i:Fin len,∃ x:S114,W.cell? (a.add (i.1 * 2+0))=some (.int .i64 x.f0)∧W.cell? (a.add (i.1 * 2+1))=some (.int .i32 x.f1):=by
  intro ⟨i,hi⟩
  have hE:=hel i hi
  rw [hC,List.getElem?_eq_getElem (show i<elems.length by omega),Option.bind_eq_some_iff] at hE
  obtain ⟨c,hc,hy⟩:=hE
  obtain ⟨_,hcl,hcc⟩:=World.cells?_some hc
  match c,hcl with
  | [u,v],_=>
   obtain ⟨y0,y1,m,_,_,h0,h1⟩:=trod_struct2 Tryz.underlying114 hy
   have e0:Tryz.prog.cellsOf 3=1:=by kernel_rfl
   have e1:Tryz.prog.cellsOf 21=1:=by kernel_rfl
   dsimp only at h0 h1
   rw [e0] at h0
   rw [e1] at h1
   obtain ⟨b0,g0,_,_⟩:=DataW.trod_int Tryz.underlying3 h0
   obtain ⟨b1,g1,_,_⟩:=DataW.trod_int Tryz.underlying21 h1
   obtain rfl:u = .int .i64 b0:=by simpa using g0
   obtain rfl:v = .int .i32 b1:=by simpa using g1
   have k0:=hcc 0 (by omega)
   have k1:=hcc 1 (by omega)
   refine ⟨⟨b0,b1⟩,?_,?_⟩
   ·have e:(a.add (i * 2)).add 0=a.add (i * 2+0):=by simp [Addr.add]
    rw [e] at k0
    simpa using k0
   have e:(a.add (i * 2)).add 1=a.add (i * 2+1):=by
    unfold Addr.add
    by_cases h:i * 2=0
    · simp [h]
    simp [h,Nat.add_assoc]
   rw [e] at k1
   simpa using k1
 have hb:(Tryz.prog.bytesOf 114)=16:=by kernel_rfl
 have hk:=hz ((elems.length+rest.length) * 16) (by rw [hx];simp [DataW.weights,Tryz.underlying24,hb])
 have hr:reachBytes=140737488351232:=rfl
 rw [hr] at hk
 refine ⟨some a,List.ofFn fun i=>Classical.choose (each i),cap,by rw [hcs];simp,⟨rfl,by simp;unfold maxLen at hm;omega,fun _=>⟨a,rfl,fun j p hj=>?_⟩⟩,by simpa using hl,by simp;omega,by simp;omega⟩
 obtain ⟨hj1,hj2⟩:=List.getElem?_eq_some_iff.1 hj
 have hj3:j<len:=by simpa using hj1
 have hp:p=Classical.choose (each ⟨j,hj3⟩):=by rw [← hj2];simp
 obtain ⟨w0,w1⟩:=Classical.choose_spec (each ⟨j,hj3⟩)
 rw [← hp] at w0 w1
 refine ⟨[.int .i64 p.f0,.int .i32 p.f1],rfl,k114_mk W p,fun i u hi=>?_⟩
 match i,hi with
 | 0,hi=>obtain rfl:=zE hi;exact w0
 | 1,hi=>obtain rfl:=zE hi;exact w1
theorem open_t4 {H:Type}{enc:TypeId×Value→H}{W:World}{fuel:Nat}{cs:List Value}{y:DataW H×List MemPlace}(h:DataW.trod enc Tryz.prog W 0 (fun _=>true) true fuel 4 cs=some y)(hz:∀ n ∈ y.1.weights Tryz.prog 4,n≤reachBytes) :
    ∃ (x:Bool),cs=[.bool x]:=by
 obtain ⟨b,e,_⟩:=DataW.trod_bool Tryz.underlying4 h
 exact ⟨b,e⟩
theorem open_t3 {H:Type}{enc:TypeId×Value→H}{W:World}{fuel:Nat}{cs:List Value}{y:DataW H×List MemPlace}(h:DataW.trod enc Tryz.prog W 0 (fun _=>true) true fuel 3 cs=some y)(hz:∀ n ∈ y.1.weights Tryz.prog 3,n≤reachBytes) :
    ∃ (x:Int),cs=[.int .i64 x]∧(Lit.int .i64 x).wf=true:=by
 obtain ⟨b,e,_,w⟩:=DataW.trod_int Tryz.underlying3 h
 exact ⟨b,e,w⟩
theorem open_t26 {H:Type}{enc:TypeId×Value→H}{W:World}{fuel:Nat}{cs:List Value}{y:DataW H×List MemPlace}(h:DataW.trod enc Tryz.prog W 0 (fun _=>true) true fuel 26 cs=some y)(hz:∀ n ∈ y.1.weights Tryz.prog 26,n≤reachBytes) :
    ∃ (Ax_0:Option Addr) (x_0:List S114) (cx_0:Nat) (Ax_1:Option Addr) (x_1:List S114) (cx_1:Nat) (Ax_2:Option Addr) (x_2:List S114) (cx_2:Nat) (Ax_3:Option Addr) (x_3:List S114) (cx_3:Nat) (x_4:Bool) (x_5:Int) (x_6:Int) (x_7:Int) (x_8:Int) (x_9:Int) (x_10:Int) (x_11:Int) (x_12:Int) (x_13:Int) (x_14:Bool) (x_15:Int) (x_16:Int),cs=[.slice Ax_0 x_0.length cx_0,.slice Ax_1 x_1.length cx_1,.slice Ax_2 x_2.length cx_2,.slice Ax_3 x_3.length cx_3,.bool x_4,.int .i64 x_5,.int .i64 x_6,.int .i64 x_7,.int .i64 x_8,.int .i64 x_9,.int .i64 x_10,.int .i64 x_11,.int .i64 x_12,.int .i64 x_13,.bool x_14,.int .i32 x_15,.int .i64 x_16]∧Kd.C k114 W Ax_0 x_0.length x_0∧x_0.length≤cx_0∧x_0.length≤maxLen∧x_0.length * 16≤140737488351232∧Kd.C k114 W Ax_1 x_1.length x_1∧x_1.length≤cx_1∧x_1.length≤maxLen∧x_1.length * 16≤140737488351232∧Kd.C k114 W Ax_2 x_2.length x_2∧x_2.length≤cx_2∧x_2.length≤maxLen∧x_2.length * 16≤140737488351232∧Kd.C k114 W Ax_3 x_3.length x_3∧x_3.length≤cx_3∧x_3.length≤maxLen∧x_3.length * 16≤140737488351232∧(Lit.int .i64 x_5).wf=true∧(Lit.int .i64 x_6).wf=true∧(Lit.int .i64 x_7).wf=true∧(Lit.int .i64 x_8).wf=true∧(Lit.int .i64 x_9).wf=true∧(Lit.int .i64 x_10).wf=true∧(Lit.int .i64 x_11).wf=true∧(Lit.int .i64 x_12).wf=true∧(Lit.int .i64 x_13).wf=true∧(Lit.int .i32 x_15).wf=true∧(Lit.int .i64 x_16).wf=true:=by
 obtain ⟨ys,n,_,hy,hl,hlen,hf⟩:=DataW.trod_struct Tryz.underlying26 h
 have hl':cs.length=17:=hl.trans (by kernel_rfl)
 clear hl
 match cs,hl' with
 | [v0,v1,v2,v3,v4,v5,v6,v7,v8,v9,v10,v11,v12,v13,v14,v15,v16],_=>
  have h0:DataW.trod enc Tryz.prog W 0 (fun _=>true) true n 24 (([v0,v1,v2,v3,v4,v5,v6,v7,v8,v9,v10,v11,v12,v13,v14,v15,v16].drop 0).take (Tryz.prog.cellsOf 24))=ys[0]?:=hf 0 _ rfl
  have s0:∃ z,ys[0]?=some z:=by
   have e:ys.length=17:=hlen
   exact ⟨_,List.getElem?_eq_getElem (by omega)⟩
  obtain ⟨z0,hz0⟩:=s0
  rw [hz0] at h0
  have e0:Tryz.prog.cellsOf 24=1:=by kernel_rfl
  rw [e0] at h0
  have g0:DataW.trod enc Tryz.prog W 0 (fun _=>true) true n 24 [v0]=some z0:=h0
  have w0:∀ n ∈ z0.1.weights Tryz.prog 24,n≤reachBytes:=fun n hn=>hz n (by
   rw [hy]
   simp only [DataW.weights,Tryz.underlying26]
   exact DataW.weights_mem_each (j:=0) (t:=24) (d:=z0.1) rfl (by rw [List.getElem?_map,hz0];rfl) n hn)
  obtain ⟨Ax_0,x_0,cx_0,q0,rx_0,qx_0,mx_0,zx_0⟩:=open_t24 g0 w0
  have h1:DataW.trod enc Tryz.prog W 0 (fun _=>true) true n 24 (([v0,v1,v2,v3,v4,v5,v6,v7,v8,v9,v10,v11,v12,v13,v14,v15,v16].drop 1).take (Tryz.prog.cellsOf 24))=ys[1]?:=hf 1 _ rfl
  have s1:∃ z,ys[1]?=some z:=by
   have e:ys.length=17:=hlen
   exact ⟨_,List.getElem?_eq_getElem (by omega)⟩
  obtain ⟨z1,hz1⟩:=s1
  rw [hz1] at h1
  have e1:Tryz.prog.cellsOf 24=1:=by kernel_rfl
  rw [e1] at h1
  have g1:DataW.trod enc Tryz.prog W 0 (fun _=>true) true n 24 [v1]=some z1:=h1
  have w1:∀ n ∈ z1.1.weights Tryz.prog 24,n≤reachBytes:=fun n hn=>hz n (by
   rw [hy]
   simp only [DataW.weights,Tryz.underlying26]
   exact DataW.weights_mem_each (j:=1) (t:=24) (d:=z1.1) rfl (by rw [List.getElem?_map,hz1];rfl) n hn)
  obtain ⟨Ax_1,x_1,cx_1,q1,rx_1,qx_1,mx_1,zx_1⟩:=open_t24 g1 w1
  have h2:DataW.trod enc Tryz.prog W 0 (fun _=>true) true n 24 (([v0,v1,v2,v3,v4,v5,v6,v7,v8,v9,v10,v11,v12,v13,v14,v15,v16].drop 2).take (Tryz.prog.cellsOf 24))=ys[2]?:=hf 2 _ rfl
  have s2:∃ z,ys[2]?=some z:=by
   have e:ys.length=17:=hlen
   exact ⟨_,List.getElem?_eq_getElem (by omega)⟩
  obtain ⟨z2,hz2⟩:=s2
  rw [hz2] at h2
  have e2:Tryz.prog.cellsOf 24=1:=by kernel_rfl
  rw [e2] at h2
  have g2:DataW.trod enc Tryz.prog W 0 (fun _=>true) true n 24 [v2]=some z2:=h2
  have w2:∀ n ∈ z2.1.weights Tryz.prog 24,n≤reachBytes:=fun n hn=>hz n (by
   rw [hy]
   simp only [DataW.weights,Tryz.underlying26]
   exact DataW.weights_mem_each (j:=2) (t:=24) (d:=z2.1) rfl (by rw [List.getElem?_map,hz2];rfl) n hn)
  obtain ⟨Ax_2,x_2,cx_2,q2,rx_2,qx_2,mx_2,zx_2⟩:=open_t24 g2 w2
  have h3:DataW.trod enc Tryz.prog W 0 (fun _=>true) true n 24 (([v0,v1,v2,v3,v4,v5,v6,v7,v8,v9,v10,v11,v12,v13,v14,v15,v16].drop 3).take (Tryz.prog.cellsOf 24))=ys[3]?:=hf 3 _ rfl
  have s3:∃ z,ys[3]?=some z:=by
   have e:ys.length=17:=hlen
   exact ⟨_,List.getElem?_eq_getElem (by omega)⟩
  obtain ⟨z3,hz3⟩:=s3
  rw [hz3] at h3
  have e3:Tryz.prog.cellsOf 24=1:=by kernel_rfl
  rw [e3] at h3
  have g3:DataW.trod enc Tryz.prog W 0 (fun _=>true) true n 24 [v3]=some z3:=h3
  have w3:∀ n ∈ z3.1.weights Tryz.prog 24,n≤reachBytes:=fun n hn=>hz n (by
   rw [hy]
   simp only [DataW.weights,Tryz.underlying26]
   exact DataW.weights_mem_each (j:=3) (t:=24) (d:=z3.1) rfl (by rw [List.getElem?_map,hz3];rfl) n hn)
  obtain ⟨Ax_3,x_3,cx_3,q3,rx_3,qx_3,mx_3,zx_3⟩:=open_t24 g3 w3
  have h4:DataW.trod enc Tryz.prog W 0 (fun _=>true) true n 4 (([v0,v1,v2,v3,v4,v5,v6,v7,v8,v9,v10,v11,v12,v13,v14,v15,v16].drop 4).take (Tryz.prog.cellsOf 4))=ys[4]?:=hf 4 _ rfl
  have s4:∃ z,ys[4]?=some z:=by
   have e:ys.length=17:=hlen
   exact ⟨_,List.getElem?_eq_getElem (by omega)⟩
  obtain ⟨z4,hz4⟩:=s4
  rw [hz4] at h4
  have e4:Tryz.prog.cellsOf 4=1:=by kernel_rfl
  rw [e4] at h4
  have g4:DataW.trod enc Tryz.prog W 0 (fun _=>true) true n 4 [v4]=some z4:=h4
  have w4:∀ n ∈ z4.1.weights Tryz.prog 4,n≤reachBytes:=fun n hn=>hz n (by
   rw [hy]
   simp only [DataW.weights,Tryz.underlying26]
   exact DataW.weights_mem_each (j:=4) (t:=4) (d:=z4.1) rfl (by rw [List.getElem?_map,hz4];rfl) n hn)
  obtain ⟨x_4,q4⟩:=open_t4 g4 w4
  have h5:DataW.trod enc Tryz.prog W 0 (fun _=>true) true n 3 (([v0,v1,v2,v3,v4,v5,v6,v7,v8,v9,v10,v11,v12,v13,v14,v15,v16].drop 5).take (Tryz.prog.cellsOf 3))=ys[5]?:=hf 5 _ rfl
  have s5:∃ z,ys[5]?=some z:=by
   have e:ys.length=17:=hlen
   exact ⟨_,List.getElem?_eq_getElem (by omega)⟩
  obtain ⟨z5,hz5⟩:=s5
  rw [hz5] at h5
  have e5:Tryz.prog.cellsOf 3=1:=by kernel_rfl
  rw [e5] at h5
  have g5:DataW.trod enc Tryz.prog W 0 (fun _=>true) true n 3 [v5]=some z5:=h5
  have w5:∀ n ∈ z5.1.weights Tryz.prog 3,n≤reachBytes:=fun n hn=>hz n (by
   rw [hy]
   simp only [DataW.weights,Tryz.underlying26]
   exact DataW.weights_mem_each (j:=5) (t:=3) (d:=z5.1) rfl (by rw [List.getElem?_map,hz5];rfl) n hn)
  obtain ⟨x_5,q5,wx_5⟩:=open_t3 g5 w5
  have h6:DataW.trod enc Tryz.prog W 0 (fun _=>true) true n 3 (([v0,v1,v2,v3,v4,v5,v6,v7,v8,v9,v10,v11,v12,v13,v14,v15,v16].drop 6).take (Tryz.prog.cellsOf 3))=ys[6]?:=hf 6 _ rfl
  have s6:∃ z,ys[6]?=some z:=by
   have e:ys.length=17:=hlen
   exact ⟨_,List.getElem?_eq_getElem (by omega)⟩
  obtain ⟨z6,hz6⟩:=s6
  rw [hz6] at h6
  have e6:Tryz.prog.cellsOf 3=1:=by kernel_rfl
  rw [e6] at h6
  have g6:DataW.trod enc Tryz.prog W 0 (fun _=>true) true n 3 [v6]=some z6:=h6
  have w6:∀ n ∈ z6.1.weights Tryz.prog 3,n≤reachBytes:=fun n hn=>hz n (by
   rw [hy]
   simp only [DataW.weights,Tryz.underlying26]
   exact DataW.weights_mem_each (j:=6) (t:=3) (d:=z6.1) rfl (by rw [List.getElem?_map,hz6];rfl) n hn)
  obtain ⟨x_6,q6,wx_6⟩:=open_t3 g6 w6
  have h7:DataW.trod enc Tryz.prog W 0 (fun _=>true) true n 3 (([v0,v1,v2,v3,v4,v5,v6,v7,v8,v9,v10,v11,v12,v13,v14,v15,v16].drop 7).take (Tryz.prog.cellsOf 3))=ys[7]?:=hf 7 _ rfl
  have s7:∃ z,ys[7]?=some z:=by
   have e:ys.length=17:=hlen
   exact ⟨_,List.getElem?_eq_getElem (by omega)⟩
  obtain ⟨z7,hz7⟩:=s7
  rw [hz7] at h7
  have e7:Tryz.prog.cellsOf 3=1:=by kernel_rfl
  rw [e7] at h7
  have g7:DataW.trod enc Tryz.prog W 0 (fun _=>true) true n 3 [v7]=some z7:=h7
  have w7:∀ n ∈ z7.1.weights Tryz.prog 3,n≤reachBytes:=fun n hn=>hz n (by
   rw [hy]
   simp only [DataW.weights,Tryz.underlying26]
   exact DataW.weights_mem_each (j:=7) (t:=3) (d:=z7.1) rfl (by rw [List.getElem?_map,hz7];rfl) n hn)
  obtain ⟨x_7,q7,wx_7⟩:=open_t3 g7 w7
  have h8:DataW.trod enc Tryz.prog W 0 (fun _=>true) true n 3 (([v0,v1,v2,v3,v4,v5,v6,v7,v8,v9,v10,v11,v12,v13,v14,v15,v16].drop 8).take (Tryz.prog.cellsOf 3))=ys[8]?:=hf 8 _ rfl
  have s8:∃ z,ys[8]?=some z:=by
   have e:ys.length=17:=hlen
   exact ⟨_,List.getElem?_eq_getElem (by omega)⟩
  obtain ⟨z8,hz8⟩:=s8
  rw [hz8] at h8
  have e8:Tryz.prog.cellsOf 3=1:=by kernel_rfl
  rw [e8] at h8
  have g8:DataW.trod enc Tryz.prog W 0 (fun _=>true) true n 3 [v8]=some z8:=h8
  have w8:∀ n ∈ z8.1.weights Tryz.prog 3,n≤reachBytes:=fun n hn=>hz n (by
   rw [hy]
   simp only [DataW.weights,Tryz.underlying26]
   exact DataW.weights_mem_each (j:=8) (t:=3) (d:=z8.1) rfl (by rw [List.getElem?_map,hz8];rfl) n hn)
  obtain ⟨x_8,q8,wx_8⟩:=open_t3 g8 w8
  have h9:DataW.trod enc Tryz.prog W 0 (fun _=>true) true n 3 (([v0,v1,v2,v3,v4,v5,v6,v7,v8,v9,v10,v11,v12,v13,v14,v15,v16].drop 9).take (Tryz.prog.cellsOf 3))=ys[9]?:=hf 9 _ rfl
  have s9:∃ z,ys[9]?=some z:=by
   have e:ys.length=17:=hlen
   exact ⟨_,List.getElem?_eq_getElem (by omega)⟩
  obtain ⟨z9,hz9⟩:=s9
  rw [hz9] at h9
  have e9:Tryz.prog.cellsOf 3=1:=by kernel_rfl
  rw [e9] at h9
  have g9:DataW.trod enc Tryz.prog W 0 (fun _=>true) true n 3 [v9]=some z9:=h9
  have w9:∀ n ∈ z9.1.weights Tryz.prog 3,n≤reachBytes:=fun n hn=>hz n (by
   rw [hy]
   simp only [DataW.weights,Tryz.underlying26]
   exact DataW.weights_mem_each (j:=9) (t:=3) (d:=z9.1) rfl (by rw [List.getElem?_map,hz9];rfl) n hn)
  obtain ⟨x_9,q9,wx_9⟩:=open_t3 g9 w9
  have h10:DataW.trod enc Tryz.prog W 0 (fun _=>true) true n 3 (([v0,v1,v2,v3,v4,v5,v6,v7,v8,v9,v10,v11,v12,v13,v14,v15,v16].drop 10).take (Tryz.prog.cellsOf 3))=ys[10]?:=hf 10 _ rfl
  have s10:∃ z,ys[10]?=some z:=by
   have e:ys.length=17:=hlen
   exact ⟨_,List.getElem?_eq_getElem (by omega)⟩
  obtain ⟨z10,hz10⟩:=s10
  rw [hz10] at h10
  have e10:Tryz.prog.cellsOf 3=1:=by kernel_rfl
  rw [e10] at h10
  have g10:DataW.trod enc Tryz.prog W 0 (fun _=>true) true n 3 [v10]=some z10:=h10
  have w10:∀ n ∈ z10.1.weights Tryz.prog 3,n≤reachBytes:=fun n hn=>hz n (by
   rw [hy]
   simp only [DataW.weights,Tryz.underlying26]
   exact DataW.weights_mem_each (j:=10) (t:=3) (d:=z10.1) rfl (by rw [List.getElem?_map,hz10];rfl) n hn)
  obtain ⟨x_10,q10,wx_10⟩:=open_t3 g10 w10
  have h11:DataW.trod enc Tryz.prog W 0 (fun _=>true) true n 3 (([v0,v1,v2,v3,v4,v5,v6,v7,v8,v9,v10,v11,v12,v13,v14,v15,v16].drop 11).take (Tryz.prog.cellsOf 3))=ys[11]?:=hf 11 _ rfl
  have s11:∃ z,ys[11]?=some z:=by
   have e:ys.length=17:=hlen
   exact ⟨_,List.getElem?_eq_getElem (by omega)⟩
  obtain ⟨z11,hz11⟩:=s11
  rw [hz11] at h11
  have e11:Tryz.prog.cellsOf 3=1:=by kernel_rfl
  rw [e11] at h11
  have g11:DataW.trod enc Tryz.prog W 0 (fun _=>true) true n 3 [v11]=some z11:=h11
  have w11:∀ n ∈ z11.1.weights Tryz.prog 3,n≤reachBytes:=fun n hn=>hz n (by
   rw [hy]
   simp only [DataW.weights,Tryz.underlying26]
   exact DataW.weights_mem_each (j:=11) (t:=3) (d:=z11.1) rfl (by rw [List.getElem?_map,hz11];rfl) n hn)
  obtain ⟨x_11,q11,wx_11⟩:=open_t3 g11 w11
  have h12:DataW.trod enc Tryz.prog W 0 (fun _=>true) true n 3 (([v0,v1,v2,v3,v4,v5,v6,v7,v8,v9,v10,v11,v12,v13,v14,v15,v16].drop 12).take (Tryz.prog.cellsOf 3))=ys[12]?:=hf 12 _ rfl
  have s12:∃ z,ys[12]?=some z:=by
   have e:ys.length=17:=hlen
   exact ⟨_,List.getElem?_eq_getElem (by omega)⟩
  obtain ⟨z12,hz12⟩:=s12
  rw [hz12] at h12
  have e12:Tryz.prog.cellsOf 3=1:=by kernel_rfl
  rw [e12] at h12
  have g12:DataW.trod enc Tryz.prog W 0 (fun _=>true) true n 3 [v12]=some z12:=h12
  have w12:∀ n ∈ z12.1.weights Tryz.prog 3,n≤reachBytes:=fun n hn=>hz n (by
   rw [hy]
   simp only [DataW.weights,Tryz.underlying26]
   exact DataW.weights_mem_each (j:=12) (t:=3) (d:=z12.1) rfl (by rw [List.getElem?_map,hz12];rfl) n hn)
  obtain ⟨x_12,q12,wx_12⟩:=open_t3 g12 w12
  have h13:DataW.trod enc Tryz.prog W 0 (fun _=>true) true n 3 (([v0,v1,v2,v3,v4,v5,v6,v7,v8,v9,v10,v11,v12,v13,v14,v15,v16].drop 13).take (Tryz.prog.cellsOf 3))=ys[13]?:=hf 13 _ rfl
  have s13:∃ z,ys[13]?=some z:=by
   have e:ys.length=17:=hlen
   exact ⟨_,List.getElem?_eq_getElem (by omega)⟩
  obtain ⟨z13,hz13⟩:=s13
  rw [hz13] at h13
  have e13:Tryz.prog.cellsOf 3=1:=by kernel_rfl
  rw [e13] at h13
  have g13:DataW.trod enc Tryz.prog W 0 (fun _=>true) true n 3 [v13]=some z13:=h13
  have w13:∀ n ∈ z13.1.weights Tryz.prog 3,n≤reachBytes:=fun n hn=>hz n (by
   rw [hy]
   simp only [DataW.weights,Tryz.underlying26]
   exact DataW.weights_mem_each (j:=13) (t:=3) (d:=z13.1) rfl (by rw [List.getElem?_map,hz13];rfl) n hn)
  obtain ⟨x_13,q13,wx_13⟩:=open_t3 g13 w13
  have h14:DataW.trod enc Tryz.prog W 0 (fun _=>true) true n 4 (([v0,v1,v2,v3,v4,v5,v6,v7,v8,v9,v10,v11,v12,v13,v14,v15,v16].drop 14).take (Tryz.prog.cellsOf 4))=ys[14]?:=hf 14 _ rfl
  have s14:∃ z,ys[14]?=some z:=by
   have e:ys.length=17:=hlen
   exact ⟨_,List.getElem?_eq_getElem (by omega)⟩
  obtain ⟨z14,hz14⟩:=s14
  rw [hz14] at h14
  have e14:Tryz.prog.cellsOf 4=1:=by kernel_rfl
  rw [e14] at h14
  have g14:DataW.trod enc Tryz.prog W 0 (fun _=>true) true n 4 [v14]=some z14:=h14
  have w14:∀ n ∈ z14.1.weights Tryz.prog 4,n≤reachBytes:=fun n hn=>hz n (by
   rw [hy]
   simp only [DataW.weights,Tryz.underlying26]
   exact DataW.weights_mem_each (j:=14) (t:=4) (d:=z14.1) rfl (by rw [List.getElem?_map,hz14];rfl) n hn)
  obtain ⟨x_14,q14⟩:=open_t4 g14 w14
  have h15:DataW.trod enc Tryz.prog W 0 (fun _=>true) true n 21 (([v0,v1,v2,v3,v4,v5,v6,v7,v8,v9,v10,v11,v12,v13,v14,v15,v16].drop 15).take (Tryz.prog.cellsOf 21))=ys[15]?:=hf 15 _ rfl
  have s15:∃ z,ys[15]?=some z:=by
   have e:ys.length=17:=hlen
   exact ⟨_,List.getElem?_eq_getElem (by omega)⟩
  obtain ⟨z15,hz15⟩:=s15
  rw [hz15] at h15
  have e15:Tryz.prog.cellsOf 21=1:=by kernel_rfl
  rw [e15] at h15
  have g15:DataW.trod enc Tryz.prog W 0 (fun _=>true) true n 21 [v15]=some z15:=h15
  have w15:∀ n ∈ z15.1.weights Tryz.prog 21,n≤reachBytes:=fun n hn=>hz n (by
   rw [hy]
   simp only [DataW.weights,Tryz.underlying26]
   exact DataW.weights_mem_each (j:=15) (t:=21) (d:=z15.1) rfl (by rw [List.getElem?_map,hz15];rfl) n hn)
  obtain ⟨x_15,q15,wx_15⟩:=open_t21 g15 w15
  have h16:DataW.trod enc Tryz.prog W 0 (fun _=>true) true n 3 (([v0,v1,v2,v3,v4,v5,v6,v7,v8,v9,v10,v11,v12,v13,v14,v15,v16].drop 16).take (Tryz.prog.cellsOf 3))=ys[16]?:=hf 16 _ rfl
  have s16:∃ z,ys[16]?=some z:=by
   have e:ys.length=17:=hlen
   exact ⟨_,List.getElem?_eq_getElem (by omega)⟩
  obtain ⟨z16,hz16⟩:=s16
  rw [hz16] at h16
  have e16:Tryz.prog.cellsOf 3=1:=by kernel_rfl
  rw [e16] at h16
  have g16:DataW.trod enc Tryz.prog W 0 (fun _=>true) true n 3 [v16]=some z16:=h16
  have w16:∀ n ∈ z16.1.weights Tryz.prog 3,n≤reachBytes:=fun n hn=>hz n (by
   rw [hy]
   simp only [DataW.weights,Tryz.underlying26]
   exact DataW.weights_mem_each (j:=16) (t:=3) (d:=z16.1) rfl (by rw [List.getElem?_map,hz16];rfl) n hn)
  obtain ⟨x_16,q16,wx_16⟩:=open_t3 g16 w16
  refine ⟨Ax_0,x_0,cx_0,Ax_1,x_1,cx_1,Ax_2,x_2,cx_2,Ax_3,x_3,cx_3,x_4,x_5,x_6,x_7,x_8,x_9,x_10,x_11,x_12,x_13,x_14,x_15,x_16,?_,rx_0,qx_0,mx_0,zx_0,rx_1,qx_1,mx_1,zx_1,rx_2,qx_2,mx_2,zx_2,rx_3,qx_3,mx_3,zx_3,wx_5,wx_6,wx_7,wx_8,wx_9,wx_10,wx_11,wx_12,wx_13,wx_15,wx_16⟩
  simp only [List.cons.injEq,and_true] at q0 q1 q2 q3 q4 q5 q6 q7 q8 q9 q10 q11 q12 q13 q14 q15 q16
  simp [q0,q1,q2,q3,q4,q5,q6,q7,q8,q9,q10,q11,q12,q13,q14,q15,q16]
theorem open_t27 {H:Type}{enc:TypeId×Value→H}{W:World}{fuel:Nat}{cs:List Value}{y:DataW H×List MemPlace}(h:DataW.trod enc Tryz.prog W 0 (fun _=>true) true fuel 27 cs=some y)(hz:∀ n ∈ y.1.weights Tryz.prog 27,n≤reachBytes) :
    ∃ (Ax:Option Addr) (x:List Int) (cx:Nat),cs=[.slice Ax x.length cx]∧Kd.C (Kd.int .u8) W Ax x.length x∧x.length≤cx∧x.length≤maxLen∧x.length * 1≤140737488351232∧(∀ b_ ∈ x,(Lit.int .u8 b_).wf=true):=by
 have z:∃ (a:Option Addr) (len cap:Nat) (zs:List Int),cs=[.slice a len cap]∧((a=none∧len=0∧cap=0∧zs=[])∨∃ x,a=some x∧len≤cap∧cap≤maxLen∧zs.length=cap∧(∀ i,i<zs.length→W.cell? (x.add i)=some (.int .u8 (zs.getD i 0)))∧∀ n ∈ zs,(Lit.int .u8 n).wf=true)∧len * 1≤140737488351232:=by
  rcases open_ints Tryz.underlying27 Tryz.underlying5 (by kernel_rfl) h with ⟨hcs,_⟩|⟨x,l,c,zs,hcs,_,hl,hm,hz',hx,hcell,hwz⟩
  · exact ⟨_,_,_,[],hcs,.inl ⟨rfl,rfl,rfl,rfl⟩,by simp⟩
  refine ⟨_,_,_,zs,hcs,.inr ⟨_,rfl,hl,hm,by simpa using hz',hcell,hwz⟩,?_⟩
  have hzc:zs.length=c:=by simpa using hz'
  have hb:(Tryz.prog.bytesOf 5)=1:=by kernel_rfl
  have hk:=hz (((zs.take l).length+(zs.drop l).length) * 1) (by rw [hx];simp [DataW.weights,Tryz.underlying27,hb,lits])
  have hr:reachBytes=140737488351232:=rfl
  rw [hr,List.length_take,List.length_drop] at hk
  have:min l zs.length=l:=by omega
  rw [this] at hk
  omega
 obtain ⟨a,len,cap,zs,hcs,hz,hzb⟩:=z
 obtain ⟨l,rfl,hr,hm,hw,hc⟩:=ReadsInt.ofRowC hz
 exact ⟨a,l,cap,hcs,Kd.C_of_reads (d:=(0:Int)) (h1:=fun _=>rfl) hr,hc,hm,hzb,hw⟩
theorem open_t29 {H:Type}{enc:TypeId×Value→H}{W:World}{fuel:Nat}{cs:List Value}{y:DataW H×List MemPlace}(h:DataW.trod enc Tryz.prog W 0 (fun _=>true) true fuel 29 cs=some y)(hz:∀ n ∈ y.1.weights Tryz.prog 29,n≤reachBytes) :
    ∃ (x_0:Bool) (Ax_1:Option Addr) (x_1:List Int) (cx_1:Nat) (x_2:Int),cs=[.bool x_0,.slice Ax_1 x_1.length cx_1,.int .i64 x_2]∧Kd.C (Kd.int .u8) W Ax_1 x_1.length x_1∧x_1.length≤cx_1∧x_1.length≤maxLen∧x_1.length * 1≤140737488351232∧(∀ b_ ∈ x_1,(Lit.int .u8 b_).wf=true)∧(Lit.int .i64 x_2).wf=true:=by
 obtain ⟨ys,n,_,hy,hl,hlen,hf⟩:=DataW.trod_struct Tryz.underlying29 h
 have hl':cs.length=3:=hl.trans (by kernel_rfl)
 clear hl
 match cs,hl' with
 | [v0,v1,v2],_=>
  have h0:DataW.trod enc Tryz.prog W 0 (fun _=>true) true n 4 (([v0,v1,v2].drop 0).take (Tryz.prog.cellsOf 4))=ys[0]?:=hf 0 _ rfl
  have s0:∃ z,ys[0]?=some z:=by
   have e:ys.length=3:=hlen
   exact ⟨_,List.getElem?_eq_getElem (by omega)⟩
  obtain ⟨z0,hz0⟩:=s0
  rw [hz0] at h0
  have e0:Tryz.prog.cellsOf 4=1:=by kernel_rfl
  rw [e0] at h0
  have g0:DataW.trod enc Tryz.prog W 0 (fun _=>true) true n 4 [v0]=some z0:=h0
  have w0:∀ n ∈ z0.1.weights Tryz.prog 4,n≤reachBytes:=fun n hn=>hz n (by
   rw [hy]
   simp only [DataW.weights,Tryz.underlying29]
   exact DataW.weights_mem_each (j:=0) (t:=4) (d:=z0.1) rfl (by rw [List.getElem?_map,hz0];rfl) n hn)
  obtain ⟨x_0,q0⟩:=open_t4 g0 w0
  have h1:DataW.trod enc Tryz.prog W 0 (fun _=>true) true n 27 (([v0,v1,v2].drop 1).take (Tryz.prog.cellsOf 27))=ys[1]?:=hf 1 _ rfl
  have s1:∃ z,ys[1]?=some z:=by
   have e:ys.length=3:=hlen
   exact ⟨_,List.getElem?_eq_getElem (by omega)⟩
  obtain ⟨z1,hz1⟩:=s1
  rw [hz1] at h1
  have e1:Tryz.prog.cellsOf 27=1:=by kernel_rfl
  rw [e1] at h1
  have g1:DataW.trod enc Tryz.prog W 0 (fun _=>true) true n 27 [v1]=some z1:=h1
  have w1:∀ n ∈ z1.1.weights Tryz.prog 27,n≤reachBytes:=fun n hn=>hz n (by
   rw [hy]
   simp only [DataW.weights,Tryz.underlying29]
   exact DataW.weights_mem_each (j:=1) (t:=27) (d:=z1.1) rfl (by rw [List.getElem?_map,hz1];rfl) n hn)
  obtain ⟨Ax_1,x_1,cx_1,q1,rx_1,qx_1,mx_1,zx_1,wx_1⟩:=open_t27 g1 w1
  have h2:DataW.trod enc Tryz.prog W 0 (fun _=>true) true n 3 (([v0,v1,v2].drop 2).take (Tryz.prog.cellsOf 3))=ys[2]?:=hf 2 _ rfl
  have s2:∃ z,ys[2]?=some z:=by
   have e:ys.length=3:=hlen
   exact ⟨_,List.getElem?_eq_getElem (by omega)⟩
  obtain ⟨z2,hz2⟩:=s2
  rw [hz2] at h2
  have e2:Tryz.prog.cellsOf 3=1:=by kernel_rfl
  rw [e2] at h2
  have g2:DataW.trod enc Tryz.prog W 0 (fun _=>true) true n 3 [v2]=some z2:=h2
  have w2:∀ n ∈ z2.1.weights Tryz.prog 3,n≤reachBytes:=fun n hn=>hz n (by
   rw [hy]
   simp only [DataW.weights,Tryz.underlying29]
   exact DataW.weights_mem_each (j:=2) (t:=3) (d:=z2.1) rfl (by rw [List.getElem?_map,hz2];rfl) n hn)
  obtain ⟨x_2,q2,wx_2⟩:=open_t3 g2 w2
  refine ⟨x_0,Ax_1,x_1,cx_1,x_2,?_,rx_1,qx_1,mx_1,zx_1,wx_1,wx_2⟩
  simp only [List.cons.injEq,and_true] at q0 q1 q2
  simp [q0,q1,q2]
theorem gl_of_laid {W : World} (h : laidMetH Tryz.prog [("math/bits.deBruijn32tab", Rows.laid_math_bits_deBruijn32tab), ("math/bits.deBruijn64tab", Rows.laid_math_bits_deBruijn64tab), ("internal/strconv.uint64pow10", Rows.laid_internal_strconv_uint64pow10)] W) : GL W := by
 rw [MakeChecks.laidMetH_plain _ _ _ (by kernel_rfl)] at h
 obtain ⟨ps,⟨g0,t0,cs0,f0,p0,q0,_,_,_,_,⟨g1,t1,cs1,f1,p1,q1,_,_,_,_,hL,_⟩,_⟩,_,_⟩:=h
 have e:(Rows.laid_internal_strconv_uint64pow10:DataW Unit)=Lib.tabData .u64 Lib.pow10Tab:=by kernel_rfl
 rw [e] at hL
 obtain ⟨g',t',cs,fuel,p,q,hg',ht',hvar,hd,_,_⟩:=hL
 obtain rfl := zE ((show Tryz.prog.globalNamed "internal/strconv.uint64pow10" = some 0 by kernel_rfl).symm.trans hg')
 obtain rfl:=zE ((show (Tryz.prog.globals[0]?).map (·.type)=some 166 by kernel_rfl).symm.trans ht')
 unfold GL Lib.TabIs
 rw [hvar,← Lib.cells_of_tab Tryz.underlying166 Tryz.underlying159 (by kernel_rfl) (by kernel_rfl) hd]
end Go.Proofs.YtklebhlanidloaaGreatDoor.PZ
end
section
set_option maxRecDepth 100000
namespace Go.Proofs.YtklebhlanidloaaGreatDoor.PZ
open Go.RowKit Go.Proofs.YtklebhlanidloaaGreatDoorW.PrintWords Go.Proofs.YtklebhlanidloaaGreatDoorW.PrintLast Go.Proofs.YtklebhlanidloaaGreatDoorW.PrintMore
section
class Sd (p:Prop):Prop where mk :: (out:p)
theorem zS {p:Prop}(h:p):Sd p:=⟨h⟩
section
variable {w W W' W0:World}{g g' j B:Nat}{o o':Obj}{t:TypeId}{cs:Array Value}{u:Value}
instance sd1 [h:Sd (Below w.heap.size w W)]:Sd (Below w.heap.size w (W.alloc o)):=⟨below_alloc h.out o⟩
instance sd2 {n:Nat} [h:Sd (Below B w W)]:Sd (Below B w (W.drewN n)):=⟨pw_below_drewN h.out n⟩
instance sd3 [h:Sd (Below B w W)]:Sd (Below B w W.drew):=⟨below_drew1 h.out⟩
instance sd4 [h:Sd (Below w.heap.size w W)] [k:Sd (w.heap.size≤g)]:Sd (Below w.heap.size w (W.setCell ⟨g,j,none⟩ u)):=⟨below_set h.out k.out⟩
instance sd5 [h:Sd (W.heap[g]?=some o)]:Sd ((W.alloc o').heap[g]?=some o):=⟨blk_alloc h.out o'⟩
instance sd6 {n:Nat} [h:Sd (W.heap[g]?=some o)]:Sd ((W.drewN n).heap[g]?=some o):=⟨blk_drewN h.out n⟩
instance sd7 [h:Sd (W.heap[g]?=some o)]:Sd (W.drew.heap[g]?=some o):=⟨blk_drew h.out⟩
instance sd8 [h:Sd (W.heap[g]?=some (.cells cs t (0,0)))] [k:Sd (g≠g')]:Sd ((W.setCell ⟨g',j,none⟩ u).heap[g]?=some (.cells cs t (0,0))):=⟨blk_far h.out k.out u⟩
class Pt (W0:World) (g:Nat) (c0:Array Value) (t:TypeId) (W:World) (cs:outParam (Array Value)):Prop where mk :: (out:W0.heap[g]?=some (.cells c0 t (0,0))→W.heap[g]?=some (.cells cs t (0,0)))
section
variable {c0:Array Value}
instance pt0:Pt W g c0 t W c0:=⟨id⟩
instance pt1 [h:Pt W0 g c0 t W cs]:Pt W0 g c0 t (W.alloc o) cs:=⟨fun q=>blk_alloc (h.out q) o⟩
instance pt2 {n:Nat} [h:Pt W0 g c0 t W cs]:Pt W0 g c0 t (W.drewN n) cs:=⟨fun q=>blk_drewN (h.out q) n⟩
instance pt3 [h:Pt W0 g c0 t W cs]:Pt W0 g c0 t W.drew cs:=⟨fun q=>blk_drew (h.out q)⟩
instance pt4 [h:Pt W0 g c0 t W cs] [k:Sd (g≠g')]:Pt W0 g c0 t (W.setCell ⟨g',j,none⟩ u) cs:=⟨fun q=>blk_far (h.out q) k.out u⟩
instance pt5 [h:Pt W0 g c0 t W cs]:Pt W0 g c0 t (W.setCell ⟨g,j,none⟩ u) (cs.setIfInBounds j u):=⟨fun q=>blk_put (h.out q) j u rfl⟩
theorem kp (b:Sd (W0.heap[g]?=some (.cells c0 t (0,0)))){cs':Array Value} [h:Pt W0 g c0 t W cs](e:cs=cs'):W.heap[g]?=some (.cells cs' t (0,0)):=e ▸ h.out b.out
end
theorem sA {α:Type}{l:List α}{i:Nat}{a:α}:l.toArray.setIfInBounds i a=(l.set i a).toArray:=List.setIfInBounds_toArray l i a
theorem sB {α:Type}{x:α}{l:List α}{y:α}:(x :: l).set 0 y=y :: l:=List.set_cons_zero
theorem sC {α:Type}{x:α}{l:List α}{n:Nat}{y:α}:(x :: l).set (n+1) y=x :: l.set n y:=List.set_cons_succ
theorem bl (_:Sd (Below B w W0)) [h:Sd (Below B w W)]:Below B w W:=h.out
theorem bs (_:Sd (Below w.heap.size w W0))(hb:Below W.heap.size W W') [h:Sd (Below w.heap.size w W)]:Sd (Below w.heap.size w W'):=⟨below_step h.out hb⟩
theorem bz (_:Sd (Below B w W0)) [h:Sd (Below B w W)]:w.heap.size≤W.heap.size:=h.out.size
theorem bg (_:Sd (Below w.heap.size w W0))(hg:g=W.heap.size) [h:Sd (Below w.heap.size w W)]:Sd (w.heap.size≤g):=⟨hg ▸ h.out.size⟩
theorem ko (_:Sd (W0.heap[g]?=some o)) [h:Sd (W.heap[g]?=some o)]:W.heap[g]?=some o:=h.out
theorem kb (_:Sd (W0.heap[g]?=some o))(hb:Below W.heap.size W W') [h:Sd (W.heap[g]?=some o)]:Sd (W'.heap[g]?=some o):=⟨blk_below h.out hb⟩
theorem kn (_:Sd (W0.heap[g]?=some o))(hg:g'=W.heap.size) [h:Sd (W.heap[g]?=some o)]:Sd (g≠g'):=⟨hg ▸ Nat.ne_of_lt (blk_lt h.out)⟩
theorem km (_:Sd (W0.heap[g]?=some o))(hg:g'=W.heap.size) [h:Sd (W.heap[g]?=some o)]:Sd (g'≠g):=⟨hg ▸ Nat.ne_of_gt (blk_lt h.out)⟩
end
section
variable {α:Type}{K:Kd α}{e:TypeId}{W W0 W':World}{base g:Nat}{ok:Nat→Prop}{v:Value}{x:List α}{o:Obj}{A:Option Addr}{n:Nat}
instance sd10 [h:Sd (K.R e W base ok v x)]:Sd (K.R e (W.alloc o) base ok v x):=⟨Kd.R_alloc h.out o⟩
instance sd11 {n:Nat} [h:Sd (K.R e W base ok v x)]:Sd (K.R e (W.drewN n) base ok v x):=⟨Kd.R_drewN h.out n⟩
instance sd12 [h:Sd (K.R e W base ok v x)]:Sd (K.R e W.drew base ok v x):=⟨Kd.R_drew h.out⟩
instance sd13 [h:Sd (K.V e W base ok v x)]:Sd (K.V e (W.alloc o) base ok v x):=⟨Kd.V_alloc h.out o⟩
instance sd14 {n:Nat} [h:Sd (K.V e W base ok v x)]:Sd (K.V e (W.drewN n) base ok v x):=⟨Kd.V_drewN h.out n⟩
instance sd15 [h:Sd (K.V e W base ok v x)]:Sd (K.V e W.drew base ok v x):=⟨Kd.V_drew h.out⟩
theorem cb {w:World}(h:Sd (K.C w A n x))(_:Sd (Below w.heap.size w W0)) [k:Sd (Below w.heap.size w W)]:K.C W A n x:=Kd.C_below h.out k.out
theorem rc {m c:Nat}(h:Sd (K.R e W0 base ok (.slice A m c) x)) [k:Sd (K.R e W base ok (.slice A m c) x)]:K.C W A x.length x:=(Kd.R_reads' k.out).2.2
theorem rl {m c:Nat}(h:Sd (K.R e W0 base ok (.slice A m c) x)):m≤c:=(Kd.R_reads' h.out).2.1
theorem vc {m c:Nat}(h:Sd (K.V e W0 base ok (.slice A m c) x)) [k:Sd (K.V e W base ok (.slice A m c) x)]:K.C W A x.length x:=(Kd.V_reads' k.out).2.2
theorem vl {m c:Nat}(h:Sd (K.V e W0 base ok (.slice A m c) x)):m≤c:=(Kd.V_reads' h.out).2.1
theorem ro (_:Sd (K.R e W0 base ok v x)) [h:Sd (K.R e W base ok v x)]:K.R e W base ok v x:=h.out
theorem vo (_:Sd (K.V e W0 base ok v x)) [h:Sd (K.V e W base ok v x)]:K.V e W base ok v x:=h.out
theorem rb (_:Sd (K.R e W0 base ok v x))(hb:Below W.heap.size W W') [h:Sd (K.R e W base ok v x)]:Sd (K.R e W' base ok v x):=⟨Kd.R_below h.out hb⟩
theorem vb (_:Sd (K.V e W0 base ok v x))(hb:Below W.heap.size W W') [h:Sd (K.V e W base ok v x)]:Sd (K.V e W' base ok v x):=⟨Kd.V_below h.out hb⟩
end
theorem mA {α β:Type}{f:α→β}{l:List α}:Array.map f l.toArray=(List.map f l).toArray:=List.map_toArray
theorem mB {α β:Type}{f:α→β}{x:α}{l:List α}:List.map f (x :: l)=f x :: List.map f l:=List.map_cons
theorem mC {α β:Type}{f:α→β}:List.map f []=[]:=List.map_nil
theorem lD {α:Type}{n:Nat}{l:List α}:(l.drop n).length=l.length - n:=List.length_drop
theorem lT {α:Type}{n:Nat}{l:List α}:(l.take n).length=min n l.length:=List.length_take
section
variable {P:Program}{ops:Array Oper}{Q:Exit→Act→World→Prop}{md:Region.Mode}{S:World→Prop}{ds:List Nat}{T:Bool×List (List Nat×List Nat)}{B:List Nat}{oi:Oper}{v:Value}{fuel:Nat}{l:Array Bool}{a:Act}{w:World}
theorem pu (i n:Nat)(l':Array Bool)(hi:ops[i]?=some oi)(hN:oi.dst=some n)(hT:Aside0 (rtab md ops=T))(hk:anyT T l.toList l'.toList i=true){v:Value}(hQ:∀ c a w,Q (.panic c) (a.put oi.dst v) w→Q (.panic c) a w)(hw:Region.wanted oi (yielded ops a.tmps)=true)
    (hy:∀ w,(execOp a.eval oi).run P w = .ok (.value v) w) {a':Act} (ha:a.put (some n) v=a') (h:wpAnyLast P md ops Q S ds fuel l' a' w):wpAnyLast P md ops Q S ds (fuel+1) l a w:=pure_ (i:=i) l' hi hN (any_of hT.out hk) hQ (Or.inl ⟨hw,hy⟩) ha h
theorem ta (i n:Nat)(l':Array Bool)(hi:ops[i]?=some oi)(hN:oi.dst=some n)(hT:Aside0 (rtab md ops=T))(hB:Aside0 (waitsOk T.2 B=true))(hk:takeW T B ds l.toList l'.toList i=true){v:Value}(hQ:∀ c a w,Q (.panic c) (a.put oi.dst v) w→Q (.panic c) a w)(hw:Region.wanted oi (yielded ops a.tmps)=true)
    (hy:∀ w,S w→(execOp a.eval oi).run P w = .ok (.value v) w) (hS:S w) {a':Act} (ha:a.put (some n) v=a') (h:wpAnyLast P md ops Q S ds fuel l' a' w):wpAnyLast P md ops Q S ds (fuel+1) l a w:=take_ (i:=i) l' hi hN (take_ofW hT.out hB.out hk) hQ (Or.inl ⟨hw,hy⟩) hS ha h
end
theorem blkc3 {w:World}{g:Nat}{t:TypeId}{c0 c1 c2:Value}(h:w.heap[g]?=some (.cells #[c0,c1,c2] t (0,0))):w.cell? ⟨g,0,none⟩=some c0∧w.cell? ⟨g,1,none⟩=some c1∧w.cell? ⟨g,2,none⟩=some c2:=⟨(blk_cell h 0).trans rfl,(blk_cell h 1).trans rfl,(blk_cell h 2).trans rfl⟩
theorem blkc7 {w:World}{g:Nat}{t:TypeId}{c0 c1 c2 c3 c4 c5 c6:Value}(h:w.heap[g]?=some (.cells #[c0,c1,c2,c3,c4,c5,c6] t (0,0))):w.cell? ⟨g,0,none⟩=some c0∧w.cell? ⟨g,1,none⟩=some c1∧w.cell? ⟨g,2,none⟩=some c2∧w.cell? ⟨g,3,none⟩=some c3∧w.cell? ⟨g,4,none⟩=some c4∧w.cell? ⟨g,5,none⟩=some c5∧w.cell? ⟨g,6,none⟩=some c6:=⟨(blk_cell h 0).trans rfl,(blk_cell h 1).trans rfl,(blk_cell h 2).trans rfl,(blk_cell h 3).trans rfl,(blk_cell h 4).trans rfl,(blk_cell h 5).trans rfl,(blk_cell h 6).trans rfl⟩
theorem blkc17 {w:World}{g:Nat}{t:TypeId}{c0 c1 c2 c3 c4 c5 c6 c7 c8 c9 c10 c11 c12 c13 c14 c15 c16:Value}(h:w.heap[g]?=some (.cells #[c0,c1,c2,c3,c4,c5,c6,c7,c8,c9,c10,c11,c12,c13,c14,c15,c16] t (0,0))):w.cell? ⟨g,0,none⟩=some c0∧w.cell? ⟨g,1,none⟩=some c1∧w.cell? ⟨g,2,none⟩=some c2∧w.cell? ⟨g,3,none⟩=some c3∧w.cell? ⟨g,4,none⟩=some c4∧w.cell? ⟨g,5,none⟩=some c5∧w.cell? ⟨g,6,none⟩=some c6∧w.cell? ⟨g,7,none⟩=some c7∧w.cell? ⟨g,8,none⟩=some c8∧w.cell? ⟨g,9,none⟩=some c9∧w.cell? ⟨g,10,none⟩=some c10∧w.cell? ⟨g,11,none⟩=some c11∧w.cell? ⟨g,12,none⟩=some c12∧w.cell? ⟨g,13,none⟩=some c13∧w.cell? ⟨g,14,none⟩=some c14∧w.cell? ⟨g,15,none⟩=some c15∧w.cell? ⟨g,16,none⟩=some c16:=⟨(blk_cell h 0).trans rfl,(blk_cell h 1).trans rfl,(blk_cell h 2).trans rfl,(blk_cell h 3).trans rfl,(blk_cell h 4).trans rfl,(blk_cell h 5).trans rfl,(blk_cell h 6).trans rfl,(blk_cell h 7).trans rfl,(blk_cell h 8).trans rfl,(blk_cell h 9).trans rfl,(blk_cell h 10).trans rfl,(blk_cell h 11).trans rfl,(blk_cell h 12).trans rfl,(blk_cell h 13).trans rfl,(blk_cell h 14).trans rfl,(blk_cell h 15).trans rfl,(blk_cell h 16).trans rfl⟩
theorem blkf3 {w:World}{g:Nat}{t:TypeId}{cs:Array Value}(h:w.heap[g]?=some (.cells cs t (0,0))):w.frozen? ⟨g,0,none⟩=false∧w.frozen? ⟨g,1,none⟩=false∧w.frozen? ⟨g,2,none⟩=false:=⟨blk_frozen h 0,blk_frozen h 1,blk_frozen h 2⟩
theorem blkf7 {w:World}{g:Nat}{t:TypeId}{cs:Array Value}(h:w.heap[g]?=some (.cells cs t (0,0))):w.frozen? ⟨g,0,none⟩=false∧w.frozen? ⟨g,1,none⟩=false∧w.frozen? ⟨g,2,none⟩=false∧w.frozen? ⟨g,3,none⟩=false∧w.frozen? ⟨g,4,none⟩=false∧w.frozen? ⟨g,5,none⟩=false∧w.frozen? ⟨g,6,none⟩=false:=⟨blk_frozen h 0,blk_frozen h 1,blk_frozen h 2,blk_frozen h 3,blk_frozen h 4,blk_frozen h 5,blk_frozen h 6⟩
theorem blkf17 {w:World}{g:Nat}{t:TypeId}{cs:Array Value}(h:w.heap[g]?=some (.cells cs t (0,0))):w.frozen? ⟨g,0,none⟩=false∧w.frozen? ⟨g,1,none⟩=false∧w.frozen? ⟨g,2,none⟩=false∧w.frozen? ⟨g,3,none⟩=false∧w.frozen? ⟨g,4,none⟩=false∧w.frozen? ⟨g,5,none⟩=false∧w.frozen? ⟨g,6,none⟩=false∧w.frozen? ⟨g,7,none⟩=false∧w.frozen? ⟨g,8,none⟩=false∧w.frozen? ⟨g,9,none⟩=false∧w.frozen? ⟨g,10,none⟩=false∧w.frozen? ⟨g,11,none⟩=false∧w.frozen? ⟨g,12,none⟩=false∧w.frozen? ⟨g,13,none⟩=false∧w.frozen? ⟨g,14,none⟩=false∧w.frozen? ⟨g,15,none⟩=false∧w.frozen? ⟨g,16,none⟩=false:=⟨blk_frozen h 0,blk_frozen h 1,blk_frozen h 2,blk_frozen h 3,blk_frozen h 4,blk_frozen h 5,blk_frozen h 6,blk_frozen h 7,blk_frozen h 8,blk_frozen h 9,blk_frozen h 10,blk_frozen h 11,blk_frozen h 12,blk_frozen h 13,blk_frozen h 14,blk_frozen h 15,blk_frozen h 16⟩
end
end Go.Proofs.YtklebhlanidloaaGreatDoor.PZ
end
section
set_option maxRecDepth 100000
namespace Go.Proofs.YtklebhlanidloaaGreatDoor.PZ
open Go.RowKit Go.Proofs.YtklebhlanidloaaGreatDoorW.PrintWords Go.Proofs.YtklebhlanidloaaGreatDoorW.PrintLast
structure PS where
  neg:Bool
  hash:Int
  minInt:Int
  minFrac:Int
  maxFrac:Int
  g1:Int
  g2:Int
  minSig:Int
  maxSig:Int
  exp:Int
  plus:Bool
  pad:Int
  padAt:Int
def PS.zero:PS:=⟨false,0,0,0,0,0,0,0,0,0,false,0,0⟩
structure SV where
  a:Option Addr
  n:Nat
  c:Nat
structure V4 where
  v0:SV
  v1:SV
  v2:SV
  v3:SV
def SV.val (x:SV):Value:=.slice x.a x.n x.c
def SV.nil:SV:=⟨none,0,0⟩
def V4.nil:V4:=⟨SV.nil,SV.nil,SV.nil,SV.nil⟩
def PS.val (s:PS)(v:V4):Value:=.agg #[.slice v.v0.a v.v0.n v.v0.c,.slice v.v1.a v.v1.n v.v1.c,.slice v.v2.a v.v2.n v.v2.c,.slice v.v3.a v.v3.n v.v3.c,.bool s.neg,.int .i64 s.hash,.int .i64 s.minInt,.int .i64 s.minFrac,.int .i64 s.maxFrac,.int .i64 s.g1,.int .i64 s.g2,.int .i64 s.minSig,.int .i64 s.maxSig,.int .i64 s.exp,.bool s.plus,.int .i32 s.pad,.int .i64 s.padAt]
def atN (l:List Int)(i:Int):Int:=if i<l.length then rd l i else -1
def manyN (l:List Int)(i r:Int):Nat:=((l.drop i.toNat).takeWhile (fun c=>c == r)).length
theorem manyN_le (l:List Int)(i r:Int):manyN l i r≤l.length - i.toNat:=by
 unfold manyN
 have h:=(List.takeWhile_sublist (fun c=>c == r) (l:=l.drop i.toNat)).length_le
 rw [List.length_drop] at h
 exact h
theorem manyN_len (l:List Int)(i r:Int):manyN l i r≤l.length:=Nat.le_trans (manyN_le l i r) (Nat.sub_le _ _)
def padO (s:PS)(l:List Int)(i w:Int):Option (PS×Int):=if 0<s.padAt∨atN l i≠42 then some (s,i) else if l.length≤i+1 then none else some ({ s with pad:=rd l (i+1),padAt:=w },i+2)
def placesL (l:List Int):Nat→Int→Int→Int→List Int→Int→Option (Int×Int×Int×List Int×Int)
  | 0,_,_,_,_,_=>none
  | f+1,h,m,n,gs,i=>
    if atN l i=35∧m=0 then placesL l f (h+1) m (n+1) gs (i+1)
    else if atN l i=48 then placesL l f h (m+1) (n+1) gs (i+1)
    else if atN l i=44∧0<n∧(atN l (i+1)=48∨atN l (i+1)=35∧m=0) then
      if 2≤gs.length∧rd gs 1≠n then none else placesL l f h m 0 (gs ++ [n]) (i+1)
    else some (h,m,n,gs,i)
def plFin (s:PS):Option (Int×Int×Int×List Int×Int)→Option (PS×Int)
  | none=>none
  | some (h,m,n,gs,j)=>if 0<h+m then some ({ s with hash:=h,minInt:=m,g1:=if gs.length=0 then s.g1 else n,g2:=if gs.length=0 then s.g2 else if gs.length=1 then n else rd gs 1 },j) else none
def placesO (s:PS)(l:List Int)(i:Int):Option (PS×Int):=plFin s (placesL l (l.length+3 - i.toNat) s.hash s.minInt 0 [] i)
def fracO (s:PS)(l:List Int)(i:Int):Option (PS×Int):=
  if 0<manyN l i 64 then some ({ s with minSig:=manyN l i 64,maxSig:=manyN l i 64+manyN l (i+manyN l i 64) 35 },i+manyN l i 64+manyN l (i+manyN l i 64) 35)
  else match placesO s l i with
    | none=>none
    | some (q,j)=>if atN l j=46 then (if manyN l (j+1) 48+manyN l (j+1+manyN l (j+1) 48) 35=0 then none else some ({ q with minFrac:=manyN l (j+1) 48,maxFrac:=manyN l (j+1) 48+manyN l (j+1+manyN l (j+1) 48) 35 },j+1+manyN l (j+1) 48+manyN l (j+1+manyN l (j+1) 48) 35)) else some (q,j)
def expO (s:PS)(l:List Int)(i:Int):Option (PS×Int):=
  if atN l i=69 then
    (if atN l (i+1)=43 then (if 0<manyN l (i+1+1) 48 then some ({ s with plus:=true,exp:=manyN l (i+1+1) 48 },i+1+1+manyN l (i+1+1) 48) else none)
      else (if 0<manyN l (i+1) 48 then some ({ s with exp:=manyN l (i+1) 48 },i+1+manyN l (i+1) 48) else none))
  else some (s,i)
def numberO (s:PS)(l:List Int)(i:Int):Option (PS×Int):=match fracO s l i with
  | none=>none
  | some (q,j)=>expO q l j
def PS.ok (s:PS):Prop:=s.minFrac≤s.maxFrac∧(0<s.g1→0<s.g2)
theorem padO_ok {s q:PS}{l:List Int}{i w j:Int}(h:padO s l i w=some (q,j))(hs:s.ok):q.ok:=by
 unfold padO at h
 split at h
 · cases h;exact hs
 split at h
 · cases h
 cases h;exact hs
theorem placesL_gs {l:List Int}:∀ (f:Nat)(h m n:Int)(gs:List Int)(i:Int)(r:Int×Int×Int×List Int×Int),placesL l f h m n gs i=some r→0≤n→(∀ g ∈ gs,0<g)→(gs=[]→True)→(∀ g ∈ r.2.2.2.1,0<g)
  | 0,_,_,_,_,_,_,e,_,_,_=>by cases e
  | f+1,h,m,n,gs,i,r,e,hn,hg,_=>by
    unfold placesL at e
    split at e
    · exact placesL_gs f _ _ _ _ _ _ e (by omega) hg (fun _=>trivial)
    · split at e
      · exact placesL_gs f _ _ _ _ _ _ e (by omega) hg (fun _=>trivial)
      · split at e
        · rename_i hc
          split at e
          · cases e
          · refine placesL_gs f _ _ _ _ _ _ e (by omega) (fun g hm=>?_) (fun _=>trivial)
            rcases List.mem_append.1 hm with hm|hm
            · exact hg g hm
            · rw [List.mem_singleton.1 hm];exact hc.2.1
        · cases e;exact hg
theorem placesO_ok {s q:PS}{l:List Int}{i j:Int}(h:placesO s l i=some (q,j))(hs:s.ok):q.ok:=by
 unfold placesO at h
 cases e:placesL l (l.length+3 - i.toNat) s.hash s.minInt 0 [] i with
 | none=>rw [e] at h;cases h
 | some r=>
  obtain ⟨hh,m,n,gs,j'⟩:=r
  rw [e] at h
  simp only [plFin] at h
  split at h
  ·cases h
   have hg:=placesL_gs _ _ _ _ _ _ _ e (Int.le_refl 0) (by simp) (fun _=>trivial)
   refine ⟨hs.1,?_⟩
   show 0<(if gs.length=0 then s.g1 else n)→0<(if gs.length=0 then s.g2 else if gs.length=1 then n else rd gs 1)
   by_cases h0:gs.length=0
   · rw [if_pos h0,if_pos h0];exact hs.2
   rw [if_neg h0,if_neg h0]
   by_cases h1:gs.length=1
   · rw [if_pos h1];exact id
   rw [if_neg h1]
   intro _
   have hlt:1<gs.length:=by omega
   have:=hg gs[1] (List.getElem_mem hlt)
   simpa [rd,List.getD_eq_getElem?_getD,List.getElem?_eq_getElem hlt] using this
  cases h
theorem fracO_ok {s q:PS}{l:List Int}{i j:Int}(h:fracO s l i=some (q,j))(hs:s.ok):q.ok:=by
 unfold fracO at h
 split at h
 · cases h;exact hs
 split at h
 · cases h
 rename_i q' j' e
 have hq:=placesO_ok e hs
 split at h
 ·split at h
  · cases h
  cases h
  refine ⟨?_,hq.2⟩
  dsimp only
  omega
 cases h;exact hq
theorem numberO_ok {s q:PS}{l:List Int}{i j:Int}(h:numberO s l i=some (q,j))(hs:s.ok):q.ok:=by
 unfold numberO at h
 split at h
 · cases h
 rename_i q' j' e
 have hq:=fracO_ok e hs
 unfold expO at h
 repeat' split at h
 all_goals (cases h;try exact hq)
theorem atN_lt {l:List Int}{i x:Int}(h:atN l i=x)(hx:0≤x):i<l.length:=by
 unfold atN at h
 split at h <;> omega
theorem many_end (l:List Int)(i r:Int)(h0:0≤i)(hi:i≤l.length):i+manyN l i r≤l.length:=by
 have:=manyN_le l i r
 omega
theorem placesL_in {l:List Int}:∀ (f:Nat)(h m n:Int)(gs:List Int)(i:Int)(r:Int×Int×Int×List Int×Int),placesL l f h m n gs i=some r→0≤i→i≤r.2.2.2.2∧(r.2.2.2.2≤l.length∨r.2.2.2.2=i∧r.1=h∧r.2.1=m)
  | 0,_,_,_,_,_,_,e,_=>by cases e
  | f+1,h,m,n,gs,i,r,e,h0=>by
    unfold placesL at e
    split at e
    · rename_i hc
      have:=atN_lt hc.1 (by omega)
      have:=placesL_in f _ _ _ _ _ _ e (by omega)
      omega
    · split at e
      · rename_i hc
        have:=atN_lt hc (by omega)
        have:=placesL_in f _ _ _ _ _ _ e (by omega)
        omega
      · split at e
        · rename_i hc
          have:=atN_lt hc.1 (by omega)
          split at e
          · cases e
          · have:=placesL_in f _ _ _ _ _ _ e (by omega)
            omega
        · cases e
          exact ⟨Int.le_refl _,.inr ⟨rfl,rfl,rfl⟩⟩
theorem numberO_in {s q:PS}{l:List Int}{i j:Int}(h:numberO s l i=some (q,j))(h0:0≤i)(hh:s.hash=0)(hm:s.minInt=0):i≤j∧j≤l.length:=by
 have hf:∀ q j,fracO s l i=some (q,j)→i≤j∧j≤l.length:=by
  intro q j e
  unfold fracO at e
  split at e
  ·rename_i hn
   cases e
   have hlt:i<l.length:=by
    have:=manyN_le l i 64
    omega
   have e1:=many_end l i 64 h0 (by omega)
   have e2:=many_end l (i+manyN l i 64) 35 (by omega) e1
   omega
  cases ep:placesO s l i with
  | none=>rw [ep] at e;cases e
  | some r=>
   obtain ⟨q',j'⟩:=r
   rw [ep] at e
   have hp:i≤j'∧j'≤l.length:=by
    unfold placesO at ep
    cases el:placesL l (l.length+3 - i.toNat) s.hash s.minInt 0 [] i with
    | none=>rw [el] at ep;cases ep
    | some r=>
     obtain ⟨hh',m,n,gs,j''⟩:=r
     rw [el] at ep
     simp only [plFin] at ep
     have:=placesL_in _ _ _ _ _ _ _ el h0
     dsimp only at this
     split at ep
     · cases ep;omega
     cases ep
   dsimp only at e
   split at e
   ·rename_i hd
    have:=atN_lt hd (by omega)
    have e1:=many_end l (j'+1) 48 (by omega) (by omega)
    have e2:=many_end l (j'+1+manyN l (j'+1) 48) 35 (by omega) e1
    split at e
    · cases e
    cases e;omega
   cases e;exact hp
 unfold numberO at h
 cases e:fracO s l i with
 | none=>rw [e] at h;cases h
 | some r=>
  obtain ⟨q',j'⟩:=r
  rw [e] at h
  obtain ⟨a1,a2⟩:=hf _ _ e
  dsimp only at h
  unfold expO at h
  split at h
  ·rename_i hE
   have:=atN_lt hE (by omega)
   split at h
   ·rename_i hp
    have:=atN_lt hp (by omega)
    have e1:=many_end l (j'+1+1) 48 (by omega) (by omega)
    split at h
    · cases h;omega
    cases h
   have e1:=many_end l (j'+1) 48 (by omega) (by omega)
   split at h
   · cases h;omega
   cases h
  cases h;exact ⟨a1,a2⟩
theorem padO_in {s q:PS}{l:List Int}{i w j:Int}(h:padO s l i w=some (q,j)):q.hash=s.hash∧q.minInt=s.minInt∧(j=i∨i+2=j∧j≤l.length+1):=by
 unfold padO at h
 split at h
 · cases h;exact ⟨rfl,rfl,.inl rfl⟩
 split at h
 · cases h
 cases h;exact ⟨rfl,rfl,.inr ⟨rfl,by omega⟩⟩
def slices_ContainsFunc_byte_byte.f (l:List Int)(fv:Nat):Option Bool:=if fv=81 then some (l.any fun c=>decide (c>9)) else none
theorem decOdd_calls (x:Int)(w:World):Calls Tryz.prog 81 #[.int .u8 x] w fun e w'=>e = .returned (.bool (decide (x>9)))∧∃ n,w'=w.drewN n:=by
 go_enter Tryz.func81,Tryz.ntmps81
 go_wp2
 go_ret
 exact ⟨rfl,0,rfl⟩
def firstAt (p:Int→Bool):List Int→Nat→Int
  | [],_=>-1
  | x :: l,i=>if p x then (i:Int) else firstAt p l (i+1)
theorem firstAt_ge (p:Int→Bool)(l:List Int)(i:Nat):decide (firstAt p l i≥0)=l.any p:=by
 induction l generalizing i with
 | nil=>rfl
 | cons x l ih=>
  simp only [firstAt,List.any_cons]
  by_cases h:p x=true
  · simp [h]
  simp [h,ih]
theorem firstAt_skip (p:Int→Bool)(l:List Int)(k:Nat)(hk:k≤l.length)(h:∀ j,j<k→p (rd l j)=false):firstAt p l 0=firstAt p (l.drop k) k:=by
 induction k with
 | zero=>simp
 | succ k ih=>
  rw [ih (by omega) (fun j hj=>h j (by omega))]
  have e:l.drop k=rd l k :: l.drop (k+1):=by
   rw [List.drop_eq_getElem_cons (by omega)]
   congr 1
   simp [rd,List.getD_eq_getElem?_getD,List.getElem?_eq_getElem (show k<l.length by omega)]
  rw [e]
  simp only [firstAt,h k (by omega),Bool.false_eq_true,if_false]
theorem rd_drop_cons (l:List Int)(k:Nat)(hk:k<l.length):l.drop k=rd l k :: l.drop (k+1):=by
 rw [List.drop_eq_getElem_cons hk]
 congr 1
 simp [rd,List.getD_eq_getElem?_getD,List.getElem?_eq_getElem hk]
set_option maxHeartbeats 1000000 in
theorem indexOdd_calls (A0:Option Addr)(c0:Nat)(l0:List Int)(w:World)(hr0:Kd.C (Kd.int .u8) w A0 l0.length l0) :
    Calls Tryz.prog 109 #[.slice A0 l0.length c0,.func (.func 81) #[] #[]] w fun e w'=>e = .returned (.int .i64 (firstAt (fun c=>decide (c>9)) l0 0))∧∃ n,w'=w.drewN n:=by
 have hm:=hr0.2.1
 have HR:=zA hr0
 clear hr0
 go_enter Tryz.func109,Tryz.ntmps109
 go_wp2
 go_loopg [5,8] l0.length (fun gg _ s8 wr=>∃ kk q:Nat,kk≤l0.length∧l0.length - kk≤gg∧s8 = .int .i64 kk∧wr=w.drewN q∧Aside0 (∀ j,j<kk→decide (rd l0 j>9)=false))
 case atStart=>exact ⟨0,0,Nat.zero_le _,by omega,rfl,rfl,⟨fun j hj=>absurd hj (Nat.not_lt_zero _)⟩⟩
 case round=>
  obtain ⟨kk,q,hkk,hg,rfl,rfl,B⟩:=hrel
  by_cases hlt:kk<l0.length
  rotate_left
  ·have:kk=l0.length:=by omega
   subst this
   have hlt1:=zD hlt
   go_wp2
   go_ret
   refine ⟨?_,q,rfl⟩
   rw [firstAt_skip _ l0 l0.length (Nat.le_refl _) B.out]
   simp [firstAt]
  have hltz:(kk:Int)<(l0.length:Int):=by omega
  obtain ⟨ad,e1,hcell⟩:=Kd.at_int HR.out (kk:Int) (by omega) (by omega)
  cases e1
  simp only [Int.toNat_natCast] at hcell
  have hlt1:=zC hlt
  generalize hy:rd l0 (kk:Int)=y at hcell
  have hc:=decOdd_calls y
  have Y:=zA hy
  clear hy
  by_cases ho:decide (y>9)=true
  ·rw [ho] at hc
   have O:=zA ho
   clear ho
   go_wp2_with (go_at_call 81;refine (hc _).mono ?_;rintro e w2 ⟨rfl,q2,rfl⟩)
   go_ret
   refine ⟨?_,_,rfl⟩
   rw [firstAt_skip _ l0 kk hkk B.out,rd_drop_cons l0 kk hlt,Y.out]
   simp only [firstAt,O.out,if_true]
   rfl
  have ho':decide (y>9)=false:=by simpa using ho
  rw [ho'] at hc
  have O:=zA ho'
  clear ho ho'
  go_wp2_with (go_at_call 81;refine (hc _).mono ?_;rintro e w' ⟨rfl,q',rfl⟩)
  go_roundg (l0.length - (kk+1))
  case measure=>omega
  case rel=>
   refine ⟨kk+1,_,by omega,by omega,by go_num,rfl,⟨fun j hj=>?_⟩⟩
   by_cases e:j=kk
   ·subst e
    rw [Y.out];exact O.out
   exact B.out j (by omega)
theorem slices_ContainsFunc_byte_byte.calls (A0:Option Addr)(c0:Nat)(l0:List Int)(a1:Nat)(r:Bool)(w:World)(hr0:Kd.C (Kd.int .u8) w A0 l0.length l0)(_hc0:l0.length≤c0)(h:slices_ContainsFunc_byte_byte.f l0 a1=some r) :
    Calls Tryz.prog 80 #[.slice A0 l0.length c0,.func (.func a1) #[] #[]] w fun e w'=>e = .returned (.bool r)∧Below w.heap.size w w':=by
 simp only [slices_ContainsFunc_byte_byte.f] at h
 by_cases e:a1=81
 ·rw [if_pos e] at h
  subst e
  obtain rfl:=zE h
  have hq:=indexOdd_calls A0 c0 l0 w hr0
  clear h hr0
  have H:=zA (firstAt_ge (fun c=>decide (c>9)) l0 0)
  go_enter Tryz.func80,Tryz.ntmps80
  go_wp2_with (go_at_call 109;refine hq.mono ?_;rintro e w' ⟨rfl,q,rfl⟩)
  go_ret
  exact ⟨by rw [← H.out];rfl,pw_below_drewN (Below.refl _ _) q⟩
 rw [if_neg e] at h
 cases h
def slices_Clone_byte_byte.f (l:List Int):Option (List Int):=if l.length≤140737488355328 then some l else none
theorem byteInfo:(Tryz.prog.info? 5).map (fun i=>(i.zero,i.size,i.bytes))=some (some (.int .u8 0),1,1):=by kernel_rfl
set_option maxHeartbeats 1000000 in
theorem slices_Clone_byte_byte.calls (A0:Option Addr)(c0:Nat)(l0:List Int)(r:List Int)(w:World)(hr0:Kd.C (Kd.int .u8) w A0 l0.length l0)(_hc0:l0.length≤c0)(h:slices_Clone_byte_byte.f l0=some r) :
    Calls Tryz.prog 83 #[.slice A0 l0.length c0] w fun e w'=>∃ v0_:Value,e = .returned (v0_)∧Kd.R (Kd.int .u8) 5 w' w.heap.size (fun _=>True) v0_ r∧Below w.heap.size w w':=by
 simp only [slices_Clone_byte_byte.f] at h
 by_cases hl:l0.length≤140737488355328
 rotate_left
 ·rw [if_neg hl] at h
  cases h
 rw [if_pos hl] at h
 obtain rfl:=zE h
 clear h
 have q22:∀ (w:World) (a:Option Addr) (n c n' c':Nat),(binOp .eql 27 (.slice a n c) (.slice none n' c')).run Tryz.prog w = .ok (.bool a.isNone) w:=fun w a n c n' c'=>Lib.run_eql_slice_nil w _ _ a n c n' c' Tryz.underlying27
 cases A0 with
 | none=>
  have hn:l0=[]:=by
   have:=hr0.2.2
   cases l0 with
   | nil=>rfl
   | cons x l=>obtain ⟨ad,he,_⟩:=Kd.at_int hr0 0 (by omega) (by simp);cases he
  subst hn
  clear hr0
  go_enter Tryz.func83,Tryz.ntmps83
  go_wp2
  go_ret
  exact ⟨_,rfl,Kd.R_nil _ _ _ _ _,Below.refl _ _⟩
 | some ad=>
  have HR:=zA hr0
  clear hr0
  have HO:Aside0 (Kd.R (Kd.int .u8) 5 (w.alloc (.cells #[] 5)) w.heap.size (fun _=>True) (.slice (some ⟨w.heap.size,0,none⟩) 0 0) []):=⟨Kd.R_of_own (World.ownsRow_made w #[] 0 (Nat.le_refl _) (Nat.zero_le _) (by simp)) (fun _ _=>trivial)⟩
  have HB:Aside0 (Below w.heap.size w (w.alloc (.cells #[] 5))):=⟨(Below.refl _ w).alloc (Nat.le_refl _) _⟩
  have HL:=zA hl
  clear hl
  go_enter Tryz.func83,Tryz.ntmps83
  go_wp2_with (at_builtin;refine Kd.R_append_rows (Kd.int .u8) (w0:=w) w.heap.size rfl (.tmp 5) (.tmp 6) 27 5 (.int .u8 0) 1 rfl Tryz.underlying27 byteInfo rfl (by decide) (by omega) _ [] l0 _ _ _ (fun _=>True) (fun _=>False) rfl rfl HO.out (Kd.C_below HR.out HB.out) (fun _ _ h=>h) (fun _ h=>h.elim) (fun _ _=>trivial) HB.out (by simp) (by have:=HL.out;simp;omega) ?_;intro v1 w1 ho hb1 _ _)
  go_ret
  exact ⟨_,rfl,by simpa using ho,hb1⟩
end Go.Proofs.YtklebhlanidloaaGreatDoor.PZ
end
section
set_option maxRecDepth 100000
namespace Go.Proofs.YtklebhlanidloaaGreatDoor.PZ
open Go.RowKit Go.Proofs.YtklebhlanidloaaGreatDoorW.PrintWords Go.Proofs.YtklebhlanidloaaGreatDoorW.PrintLast Go.Proofs.YtklebhlanidloaaGreatDoorW.PrintMore
section
def ConvR (P:Program)(src dst:TypeId)(x:Value)(W:World)(K:Ending→World→Prop):Prop:=∃ v W',(convert src dst x).run P W = .ok v W'∧K (.returned v) W'
theorem ConvR.mono {P:Program}{src dst:TypeId}{x:Value}{W:World}{K K':Ending→World→Prop}(h:ConvR P src dst x W K)(hk:∀ e w',K e w'→K' e w'):ConvR P src dst x W K':=by
 obtain ⟨v,W',h1,h2⟩:=h
 exact ⟨v,W',h1,hk _ _ h2⟩
section
variable {P:Program}{ops:Array Oper}{Q:Exit→Act→World→Prop}{o:Oper}{a:Act}{W:World}{rest:List Oper}
theorem gate_convT {src dst:TypeId}{x:Operand}(_ho:o.op = .convert src dst x)(h:wpList P ops Q (o :: rest) a W):wpList P ops Q (o :: rest) a W:=h
theorem goesR_ (N:Option Tmp)(hd:o.dst=N)(hg:o.guard=none)(src dst:TypeId)(v:Value){x:Operand}(hop:o.op = .convert src dst x)(hx:a.eval x=v)
    (h:ConvR P src dst v W fun e w'=>∃ v,e = .returned v∧wpList P ops Q rest (a.put N v) w'):wpList P ops Q (o :: rest) a W:=by
 obtain ⟨u,w1,h1,v',he,hk⟩:=h
 injection he with he
 subst he
 subst hd
 refine Kd.event_run hg ?_ hk
 unfold execOp
 simp [hop,hx,h1]
end
theorem run_runes_loop {P:Program}{w:World}(f:Value→ByteArray→Sem (ForInStep ByteArray))(hf:∀ (n:Int)(r:ByteArray),(f (.int .i32 n) r).run P w = .ok (.yield (r ++ Utf8.encode n)) w) :
    ∀ (ns:List Int) (s:ByteArray),(forIn (ns.map (Value.int .i32)) s f).run P w = .ok (ns.foldl (fun r n=>r ++ Utf8.encode n) s) w:=by
 intro ns
 induction ns with
 | nil=>intro s;simp [Sem.run_pure]
 | cons n ns ih=>
  intro s
  simp only [List.map_cons,List.forIn_cons,Sem.run_bind,hf,Result.andThen,List.foldl_cons]
  exact ih _
theorem run_runesToString {P:Program}(w:World)(a:Addr)(len cap:Nat)(ns:List Int)(h:(loadCells a len).run P w = .ok (ns.map (Value.int .i32)).toArray w) :
    (Conv.runesToString (.slice (some a) len cap)).run P w = .ok (.string (ns.foldl (fun r n=>r ++ Utf8.encode n) ByteArray.empty)) w:=by
 unfold Conv.runesToString
 simp only [Sem.run_bind,h,Result.andThen,List.forIn_toArray]
 rw [run_runes_loop _ (by intro n r;simp [Sem.run_pure])]
 simp [Sem.run_pure]
def conv_text.f (l:List Int):Option ByteArray:=some (l.foldl (fun r n=>r ++ Utf8.encode n) ByteArray.empty)
theorem conv_text.calls (A:Option Addr)(c:Nat)(l:List Int)(r:ByteArray)(w:World)(hr:Kd.C (Kd.int .i32) w A l.length l)(hc:l.length≤c)(h:conv_text.f l=some r) :
    ConvR Tryz.prog 46 9 (.slice A l.length c) w fun e w'=>e = .returned (.string r)∧Below w.heap.size w w':=by
 obtain rfl:=zE h
 refine ⟨_,w,?_,rfl,Below.refl _ w⟩
 have e1:(convert 46 9 (.slice A l.length c)).run Tryz.prog w=(Conv.runesToString (.slice A l.length c)).run Tryz.prog w:=by
  simp [convert,run_underlying Tryz.underlying46,run_underlying Tryz.underlying9,run_underlying Tryz.underlying21]
 rw [e1]
 by_cases h0:l.length=0
 ·have hl:l=[]:=List.eq_nil_of_length_eq_zero h0
  subst hl
  cases A with
  | none=>simp [Conv.runesToString,Sem.run_pure]
  | some a=>exact run_runesToString w a 0 c [] (by simp [loadCells,loadCellsFrom,Sem.run_pure])
 obtain ⟨ad,hA,hcell⟩:=hr.2.2 (by omega)
 subst hA
 refine run_runesToString w ad l.length c l ?_
 have:=run_loadCells_list (P:=Tryz.prog) (w:=w) ad (l.map (Value.int .i32)) (fun j v hj=>by
  rw [List.getElem?_map,Option.map_eq_some_iff] at hj
  obtain ⟨p,hp,rfl⟩:=hj
  obtain ⟨c1,hc1,hk,hcc⟩:=hcell j p hp
  have hc2:c1=[.int .i32 p]:=hk
  subst hc2
  have:=hcc 0 _ rfl
  rw [show (Kd.int .i32).sz=1 from rfl] at this
  simpa using this)
 simpa using this
end
end Go.Proofs.YtklebhlanidloaaGreatDoor.PZ
end
section
namespace Go.Proofs.YtklebhlanidloaaGreatDoor.PZ
open Go.RowKit Go.Proofs.YtklebhlanidloaaGreatDoorW.PrintWords Go.Proofs.YtklebhlanidloaaGreatDoorW.PrintLast Go.Proofs.YtklebhlanidloaaGreatDoorW.PrintMore
section
attribute [local go_sem] max2_int min2_int max_two min_two max_three min_three max_four min_four   -- for this text's walks alone
def dec_odd.f (a0:Int):Option (Bool):=some (decide (a0>9))
set_option maxHeartbeats 8000000 in
set_option maxRecDepth 100000 in
theorem dec_odd.calls (a0:Int)(r:Bool)(w:World)(h:dec_odd.f a0=some r) :
    Calls Tryz.prog 81 #[.int .u8 a0] w fun e w'=>e = .returned (.bool r)∧Drawn0 w w':=by
 have H:(some (decide (a0>9)))=some r:=h
 clear h
 obtain rfl:=zE H
 go_enter Tryz.func81,Tryz.ntmps81
 go_wp2
 go_ret
 exact ⟨by first|rfl|(simp;done)|(simp [*];done),by repeat (first|exact Drawn0.refl _|apply Drawn0.step)⟩
def dec_tooFar.f (a0:Int)(a1:Int):Option (Bool):=if a0<(wrap64 (-a1)) then (some true) else (some (decide (a0>a1)))
set_option maxHeartbeats 8000000 in
set_option maxRecDepth 100000 in
theorem dec_tooFar.calls (a0:Int)(a1:Int)(r:Bool)(w:World)(h:dec_tooFar.f a0 a1=some r) :
    Calls Tryz.prog 82 #[.int .i64 a0,.int .i64 a1] w fun e w'=>e = .returned (.bool r)∧Drawn0 w w':=by
 have H:(if a0<(wrap64 (-a1)) then (some true) else (some (decide (a0>a1))))=some r:=h
 clear h
 by_cases c3:a0<(wrap64 (-a1))
 ·rw [if_pos c3] at H
  have aa:decide (a0<(wrap64 (-a1)))=true:=zC c3
  clear c3
  obtain rfl:=zE H
  go_enter Tryz.func82,Tryz.ntmps82
  go_wp2
  go_ret
  exact ⟨by first|rfl|(simp;done)|(simp [*];done),by repeat (first|exact Drawn0.refl _|apply Drawn0.step)⟩
 rw [if_neg c3] at H
 have aa:decide (a0<(wrap64 (-a1)))=false:=zD c3
 clear c3
 obtain rfl:=zE H
 go_enter Tryz.func82,Tryz.ntmps82
 go_wp2
 go_ret
 exact ⟨by first|rfl|(simp;done)|(simp [*];done),by repeat (first|exact Drawn0.refl _|apply Drawn0.step)⟩
end
end Go.Proofs.YtklebhlanidloaaGreatDoor.PZ
end
section
set_option maxRecDepth 100000
namespace Go.Proofs.YtklebhlanidloaaGreatDoor.PZ
open Go.RowKit Go.Proofs.YtklebhlanidloaaGreatDoorW.PrintWords Go.Proofs.YtklebhlanidloaaGreatDoorW.PrintLast
theorem map_at (W:World)(es:Array MapEntry)(clk:Nat):(W.alloc (.map es clk)).heap[W.heap.size]?=some (.map es clk):=by
 have e:(W.alloc (.map es clk)).heap=W.heap.push (.map es clk):=rfl
 rw [e];simp
end Go.Proofs.YtklebhlanidloaaGreatDoor.PZ
end
