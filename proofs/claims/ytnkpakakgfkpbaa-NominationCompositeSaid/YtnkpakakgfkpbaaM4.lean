import Derived.Test.YtnkpakakgfkpbaaM3
set_option linter.unusedVariables false
set_option linter.unusedSimpArgs false
section
namespace Go.Proofs.Ytnkpakakgfkpbaa.P
open Go.RowKit Go.Proofs.YtnkpakakgfkpbaaW.PrintWords Go.Proofs.YtnkpakakgfkpbaaW.PrintLast Go.Proofs.YtnkpakakgfkpbaaW.PrintMore
attribute [local go_sem] max2_int max_two binOp_string_gtr_pp
mutual
def nomination_voted.l0:Nat→List ByteArray→List Int→Int→Int→Int→Int→Int→Int→Int→List Int→List (S30)→ByteArray→List ByteArray→List ByteArray→List ByteArray→List (S48)→Option (List ByteArray)
 | 0,_,_,_,_,_,_,_,_,_,_,_,_,_,_,_,_=>none
 | k + 1,x3,h5,i4,h2,i5,j6,j7,j8,j9,k0,k4,h9,k5,k6,k7,i0=>if h2 < i4 then (if 0≤h2 then (if h2 < (h5.length:Int) then (if (rd h5 h2)=i5 then (if h9.toList=([]:List UInt8) then (nomination_voted.l0 k x3 h5 i4 (wrap64 (h2 + 1)) i5 j6 j7 j8 j9 k0 k4 h9 k5 k6 k7 i0) else ((nomination_put.f k x3 h9).bind fun p2=>(nomination_voted.l0 k p2 h5 i4 (wrap64 (h2 + 1)) i5 j6 j7 j8 j9 k0 k4 h9 k5 k6 k7 i0))) else (nomination_voted.l1 k x3 (rd h5 h2) h5 i4 h2 i0 (i0.length:Int) 0 i5 j6 j7 j8 j9 k0 k4 h9 k5 k6 k7 i0)) else (none)) else (none)) else (some x3)
def nomination_voted.l1:Nat→List ByteArray→Int→List Int→Int→Int→List (S48)→Int→Int→Int→Int→Int→Int→Int→List Int→List (S30)→ByteArray→List ByteArray→List ByteArray→List ByteArray→List (S48)→Option (List ByteArray)
 | 0,_,_,_,_,_,_,_,_,_,_,_,_,_,_,_,_,_,_,_,_=>none
 | k + 1,x3,x7,h5,i4,h2,h3,o6,g7,i5,j6,j7,j8,j9,k0,k4,h9,k5,k6,k7,i0=>if g7 < o6 then (if 0≤g7 then (if g7 < (h3.length:Int) then (if ((rd_T48 h3 g7).f0)=x7 then ((nomination_all.f k (([(⟨(rd_T48 h3 g7).f0,(rd_T48 h3 g7).f1,(⟨(rd_T48 h3 g7).f2.f0,(rd_T48 h3 g7).f2.f1,(rd_T48 h3 g7).f2.f2⟩:S30),(rd_T48 h3 g7).f3,(rd_T48 h3 g7).f4⟩:S48)]:List (S48)))).bind fun e1=>(nomination_voted.l2 k x3 x7 h5 i4 h2 h3 o6 g7 e1 (e1.length:Int) 0 i5 j6 j7 j8 j9 k0 k4 h9 k5 k6 k7 i0)) else (nomination_voted.l1 k x3 x7 h5 i4 h2 h3 o6 (wrap64 (g7 + 1)) i5 j6 j7 j8 j9 k0 k4 h9 k5 k6 k7 i0)) else (none)) else (none)) else (nomination_voted.l0 k x3 h5 i4 (wrap64 (h2 + 1)) i5 j6 j7 j8 j9 k0 k4 h9 k5 k6 k7 i0)
def nomination_voted.l2:Nat→List ByteArray→Int→List Int→Int→Int→List (S48)→Int→Int→List ByteArray→Int→Int→Int→Int→Int→Int→Int→List Int→List (S30)→ByteArray→List ByteArray→List ByteArray→List ByteArray→List (S48)→Option (List ByteArray)
 | 0,_,_,_,_,_,_,_,_,_,_,_,_,_,_,_,_,_,_,_,_,_,_,_=>none
 | k + 1,x3,x7,h5,i4,h2,h3,o6,g7,s2,w9,p3,i5,j6,j7,j8,j9,k0,k4,h9,k5,k6,k7,i0=>if p3 < w9 then (if 0≤p3 then (if p3 < (s2.length:Int) then ((nomination_put.f k x3 (rdOf ByteArray.empty s2 p3)).bind fun p4=>(nomination_voted.l2 k p4 x7 h5 i4 h2 h3 o6 g7 s2 w9 (wrap64 (p3 + 1)) i5 j6 j7 j8 j9 k0 k4 h9 k5 k6 k7 i0)) else (none)) else (none)) else (nomination_voted.l1 k x3 x7 h5 i4 h2 h3 o6 (wrap64 (g7 + 1)) i5 j6 j7 j8 j9 k0 k4 h9 k5 k6 k7 i0)
end
def nomination_voted.f (k:Nat) (e2:Int) (f8:Int) (f9:Int) (g3:Int) (g0:Int) (e4:List Int) (e5:List (S30)) (e6:ByteArray) (b9:List ByteArray) (g1:List ByteArray) (g2:List ByteArray) (b0:List (S48)):Option (List ByteArray):=(leaders_Leaders.f k g0 e4 e5 e2 f8 f9).bind fun s3=>((nodeset_Nodes.f k s3.1).bind fun b3=>(nomination_voted.l0 k b9 b3 (b3.length:Int) 0 e2 f8 f9 g3 g0 e4 e5 e6 b9 g1 g2 b0))
theorem nomination_voted.mono_l:∀ k,(∀ y0 y1 y2 y3 y4 y5 y6 y7 y8 y9 i6 i7 i8 i9 j2 j3,LeO (nomination_voted.l0 k y0 y1 y2 y3 y4 y5 y6 y7 y8 y9 i6 i7 i8 i9 j2 j3) (nomination_voted.l0 (k + 1) y0 y1 y2 y3 y4 y5 y6 y7 y8 y9 i6 i7 i8 i9 j2 j3))∧(∀ y0 y1 y2 y3 y4 y5 y6 y7 y8 y9 i6 i7 i8 i9 j2 j3 n0 n1 n2 n3,LeO (nomination_voted.l1 k y0 y1 y2 y3 y4 y5 y6 y7 y8 y9 i6 i7 i8 i9 j2 j3 n0 n1 n2 n3) (nomination_voted.l1 (k + 1) y0 y1 y2 y3 y4 y5 y6 y7 y8 y9 i6 i7 i8 i9 j2 j3 n0 n1 n2 n3))∧(∀ y0 y1 y2 y3 y4 y5 y6 y7 y8 y9 i6 i7 i8 i9 j2 j3 n0 n1 n2 n3 s4 s5 s6,LeO (nomination_voted.l2 k y0 y1 y2 y3 y4 y5 y6 y7 y8 y9 i6 i7 i8 i9 j2 j3 n0 n1 n2 n3 s4 s5 s6) (nomination_voted.l2 (k + 1) y0 y1 y2 y3 y4 y5 y6 y7 y8 y9 i6 i7 i8 i9 j2 j3 n0 n1 n2 n3 s4 s5 s6))
 | 0=>⟨fun _ _ _ _ _ _ _ _ _ _ _ _ _ _ _ _ r h=>by simp [nomination_voted.l0] at h,fun _ _ _ _ _ _ _ _ _ _ _ _ _ _ _ _ _ _ _ _ r h=>by simp [nomination_voted.l1] at h,fun _ _ _ _ _ _ _ _ _ _ _ _ _ _ _ _ _ _ _ _ _ _ _ r h=>by simp [nomination_voted.l2] at h⟩
 | k + 1=>by
  obtain ⟨p5,p6,p7⟩:=nomination_voted.mono_l k
  refine ⟨?_,?_,?_⟩
  ·intro y0 y1 y2 y3 y4 y5 y6 y7 y8 y9 i6 i7 i8 i9 j2 j3
   unfold nomination_voted.l0
   repeat' first
   | (with_reducible exact p5 _ _ _ _ _ _ _ _ _ _ _ _ _ _ _ _)
   | (with_reducible exact p6 _ _ _ _ _ _ _ _ _ _ _ _ _ _ _ _ _ _ _ _)
   | (with_reducible exact p7 _ _ _ _ _ _ _ _ _ _ _ _ _ _ _ _ _ _ _ _ _ _ _)
   | (with_reducible apply leaders_Leaders.mono)
   | (with_reducible apply nodeset_Nodes.mono)
   | (with_reducible apply nomination_all.mono)
   | (with_reducible apply nomination_put.mono)
   | (with_reducible exact LeO.refl _)
   | (with_reducible exact LeO.none _)
   | (with_reducible refine LeO.ite ?_ ?_)
   | (with_reducible refine LeO.bind ?_ (fun _=>?_))
  ·intro y0 y1 y2 y3 y4 y5 y6 y7 y8 y9 i6 i7 i8 i9 j2 j3 n0 n1 n2 n3
   unfold nomination_voted.l1
   repeat' first
   | (with_reducible exact p5 _ _ _ _ _ _ _ _ _ _ _ _ _ _ _ _)
   | (with_reducible exact p6 _ _ _ _ _ _ _ _ _ _ _ _ _ _ _ _ _ _ _ _)
   | (with_reducible exact p7 _ _ _ _ _ _ _ _ _ _ _ _ _ _ _ _ _ _ _ _ _ _ _)
   | (with_reducible apply leaders_Leaders.mono)
   | (with_reducible apply nodeset_Nodes.mono)
   | (with_reducible apply nomination_all.mono)
   | (with_reducible apply nomination_put.mono)
   | (with_reducible exact LeO.refl _)
   | (with_reducible exact LeO.none _)
   | (with_reducible refine LeO.ite ?_ ?_)
   | (with_reducible refine LeO.bind ?_ (fun _=>?_))
  ·intro y0 y1 y2 y3 y4 y5 y6 y7 y8 y9 i6 i7 i8 i9 j2 j3 n0 n1 n2 n3 s4 s5 s6
   unfold nomination_voted.l2
   repeat' first
   | (with_reducible exact p5 _ _ _ _ _ _ _ _ _ _ _ _ _ _ _ _)
   | (with_reducible exact p6 _ _ _ _ _ _ _ _ _ _ _ _ _ _ _ _ _ _ _ _)
   | (with_reducible exact p7 _ _ _ _ _ _ _ _ _ _ _ _ _ _ _ _ _ _ _ _ _ _ _)
   | (with_reducible apply leaders_Leaders.mono)
   | (with_reducible apply nodeset_Nodes.mono)
   | (with_reducible apply nomination_all.mono)
   | (with_reducible apply nomination_put.mono)
   | (with_reducible exact LeO.refl _)
   | (with_reducible exact LeO.none _)
   | (with_reducible refine LeO.ite ?_ ?_)
   | (with_reducible refine LeO.bind ?_ (fun _=>?_))
theorem nomination_voted.mono:∀ a0 a1 a2 a3 a4 a5 a6 a7 a8 a9 s7 s8 k,LeO (nomination_voted.f k a0 a1 a2 a3 a4 a5 a6 a7 a8 a9 s7 s8) (nomination_voted.f (k + 1) a0 a1 a2 a3 a4 a5 a6 a7 a8 a9 s7 s8):=by
 intro a0 a1 a2 a3 a4 a5 a6 a7 a8 a9 s7 s8 k
 obtain ⟨p5,p6,p7⟩:=nomination_voted.mono_l k
 unfold nomination_voted.f
 repeat' first
   | (with_reducible exact p5 _ _ _ _ _ _ _ _ _ _ _ _ _ _ _ _)
   | (with_reducible exact p6 _ _ _ _ _ _ _ _ _ _ _ _ _ _ _ _ _ _ _ _)
   | (with_reducible exact p7 _ _ _ _ _ _ _ _ _ _ _ _ _ _ _ _ _ _ _ _ _ _ _)
   | (with_reducible apply leaders_Leaders.mono)
   | (with_reducible apply nodeset_Nodes.mono)
   | (with_reducible apply nomination_all.mono)
   | (with_reducible apply nomination_put.mono)
   | (with_reducible exact LeO.refl _)
   | (with_reducible exact LeO.none _)
   | (with_reducible refine LeO.ite ?_ ?_)
   | (with_reducible refine LeO.bind ?_ (fun _=>?_))
set_option maxHeartbeats 8000000 in
set_option maxRecDepth 100000 in
theorem nomination_voted.calls (k:Nat) (e2:Int) (f8:Int) (f9:Int) (g3:Int) (g0:Int) (l6:Option Addr) (l7:Nat) (e4:List Int) (l8:Option Addr) (l9:Nat) (e5:List (S30)) (e6:ByteArray) (d8:Nat→Prop) (i1:Option Addr) (i2:Nat) (b9:List ByteArray) (m2:Option Addr) (m3:Nat) (g1:List ByteArray) (m4:Option Addr) (m5:Nat) (g2:List ByteArray) (d9:Nat→Prop) (k8:Option Addr) (h4:Nat) (b0:List (S48)) (r:List ByteArray) (w:World) (x0:Kd.C (Kd.int .i64) w l6 e4.length e4) (x1:e4.length≤l7) (x2:Kd.C k30 w l8 e5.length e5) (x4:e5.length≤l9) (J0:Kd.V Kd.string 9 w w.heap.size (fun k_=>d8 k_) (.slice i1 b9.length i2) b9) (x5:Kd.C Kd.string w m2 g1.length g1) (x6:g1.length≤m3) (x8:Kd.C Kd.string w m4 g2.length g2) (x9:g2.length≤m5) (J1:Kd.V k48 48 w w.heap.size (fun k_=>d9 k_) (.slice k8 b0.length h4) b0) (h:nomination_voted.f k e2 f8 f9 g3 g0 e4 e5 e6 b9 g1 g2 b0=some r) :
  Calls Try.prog 23 #[.agg #[.int .i64 e2,.int .i64 f8,.int .i64 f9,.int .i64 g3,.int .i64 g0,.slice l6 e4.length l7,.slice l8 e5.length l9,.string e6,.slice i1 b9.length i2,.slice m2 g1.length m3,.slice m4 g2.length m5,.slice k8 b0.length h4]] w fun e w'=>∃ z0:Value,e = .returned (z0)∧Kd.V Kd.string 9 w' w.heap.size (fun k_=>((d8 k_∨d9 k_)∨w.heap.size≤k_)) z0 r∧Below w.heap.size w w':=by
 have hu33:=Try.underlying33
 have hu30:=Try.underlying30
 have hu48:=Try.underlying48
 have J2:=Aside0.mk x0
 have J3:=Aside0.mk x1
 clear x0 x1
 have J4:=Aside0.mk x2
 have J5:=Aside0.mk x4
 clear x2 x4
 have j4:=Aside0.mk (show Kd.V Kd.string 9 w w.heap.size (fun k_=>((d8 k_∨d9 k_)∨w.heap.size≤k_)) (.slice i1 b9.length i2) b9 from Kd.V_mono J0 (fun k_ hk=>.inl (.inl hk)))
 have O7:=Aside0.mk x5
 have O8:=Aside0.mk x6
 clear x5 x6
 have O9:=Aside0.mk x8
 have P0:=Aside0.mk x9
 clear x8 x9
 have k9:=Aside0.mk (show Kd.V k48 48 w w.heap.size (fun k_=>((d8 k_∨d9 k_)∨w.heap.size≤k_)) (.slice k8 b0.length h4) b0 from Kd.V_mono J1 (fun k_ hk=>.inl (.inr hk)))
 have HB:=Aside0.mk (Below.refl w.heap.size w)
 have H:((leaders_Leaders.f k g0 e4 e5 e2 f8 f9).bind fun s3=>((nodeset_Nodes.f k s3.1).bind fun b3=>(nomination_voted.l0 k b9 b3 (b3.length:Int) 0 e2 f8 f9 g3 g0 e4 e5 e6 b9 g1 g2 b0)))=some r:=h
 clear h
 replace H:=Option.bind_eq_some_iff.mp H
 obtain ⟨⟨r2,J6⟩,z1,H⟩:=H
 replace H:((nodeset_Nodes.f k r2).bind fun b3=>(nomination_voted.l0 k b9 b3 (b3.length:Int) 0 e2 f8 f9 g3 g0 e4 e5 e6 b9 g1 g2 b0))=some r:=H
 have A2:=Aside0.mk z1
 clear z1
 replace H:=Option.bind_eq_some_iff.mp H
 obtain ⟨b3,z2,H⟩:=H
 replace H:(nomination_voted.l0 k b9 b3 (b3.length:Int) 0 e2 f8 f9 g3 g0 e4 e5 e6 b9 g1 g2 b0)=some r:=H
 have A3:=Aside0.mk z2
 clear z2
 have H':=Aside0.mk H
 clear H
 go_enter Try.func23,Try.ntmps23
 go_wp2_with (first|((with_reducible refine gate_dst (N:=1) rfl ?_);refine box_event ?hg (N:=1) ?hd (cs:=#[.int .i64 e2,.int .i64 f8,.int .i64 f9,.int .i64 g3,.int .i64 g0,.slice l6 e4.length l7,.slice l8 e5.length l9,.string e6,.slice i1 b9.length i2,.slice m2 g1.length m3,.slice m4 g2.length m5,.slice k8 b0.length h4]) (t:=33) ?hr ?_;(case hd=>rfl);(case hg=>rfl);(case hr=>first|(go_simp;done)|(go_simp;rfl));intro b5 hg w4 hbox hb;refine ap6 (Kd.V_below (Kd.V_elderB (by (with_reducible repeat (first|apply Kd.V_alloc|apply Kd.V_drewN|apply Kd.V_drew));exact j4.out) b5 (Nat.le_of_eq hg.symm)) hb) (Kd.V_below (Kd.V_elderB (by (with_reducible repeat (first|apply Kd.V_alloc|apply Kd.V_drewN|apply Kd.V_drew));exact k9.out) b5 (Nat.le_of_eq hg.symm)) hb) (below_step (belowP HB) hb) (hbox) ((by rw [hg];exact (below_size (belowP HB)):w.heap.size≤b5)) ((by rw [hg];exact (below_size (belowP HB)):w.heap.size≤b5)) ?_;clear j4 k9 HB;intro j4 k9 HB b4 GW282 l3;clear hb hbox hg;have s9:w4.cell? ⟨b5,0,none⟩=some (.int .i64 e2):=(blk_cell b4.out 0).trans rfl;have t0:w4.cell? ⟨b5,1,none⟩=some (.int .i64 f8):=(blk_cell b4.out 1).trans rfl;have t1:w4.cell? ⟨b5,2,none⟩=some (.int .i64 f9):=(blk_cell b4.out 2).trans rfl;have t2:w4.cell? ⟨b5,3,none⟩=some (.int .i64 g3):=(blk_cell b4.out 3).trans rfl;have t3:w4.cell? ⟨b5,4,none⟩=some (.int .i64 g0):=(blk_cell b4.out 4).trans rfl;have t4:w4.cell? ⟨b5,5,none⟩=some (.slice l6 e4.length l7):=(blk_cell b4.out 5).trans rfl;have t5:w4.cell? ⟨b5,6,none⟩=some (.slice l8 e5.length l9):=(blk_cell b4.out 6).trans rfl;have t6:w4.cell? ⟨b5,7,none⟩=some (.string e6):=(blk_cell b4.out 7).trans rfl;have t7:w4.cell? ⟨b5,8,none⟩=some (.slice i1 b9.length i2):=(blk_cell b4.out 8).trans rfl;have t8:w4.cell? ⟨b5,9,none⟩=some (.slice m2 g1.length m3):=(blk_cell b4.out 9).trans rfl;have t9:w4.cell? ⟨b5,10,none⟩=some (.slice m4 g2.length m5):=(blk_cell b4.out 10).trans rfl;have u0:w4.cell? ⟨b5,11,none⟩=some (.slice k8 b0.length h4):=(blk_cell b4.out 11).trans rfl;have u1:=blk_frozen b4.out 0;have u2:=blk_frozen b4.out 1;have u3:=blk_frozen b4.out 2;have u4:=blk_frozen b4.out 3;have u5:=blk_frozen b4.out 4;have u6:=blk_frozen b4.out 5;have u7:=blk_frozen b4.out 6;have u9:=blk_frozen b4.out 7;have v0:=blk_frozen b4.out 8;have v1:=blk_frozen b4.out 9;have v2:=blk_frozen b4.out 10;have v4:=blk_frozen b4.out 11)|((with_reducible refine gate_callee (f:=38) rfl ?_);refine goesL_ (some 23) rfl rfl Try.func38 (by kernel_rfl) rfl #[.agg #[.int .i64 g0,.slice l6 e4.length l7,.slice l8 e5.length l9],.int .i64 e2,.int .i64 f8,.int .i64 f9] rfl tz0 ?_;(with_reducible refine (leaders_Leaders.calls k g0 _ _ e4 _ _ e5 e2 f8 f9 r2 J6 _ ?side1 ?side2 ?side3 ?side4 A2.out).mono ?_);(case side1=>exact Kd.C_q (Kd.C_below J2.out HB.out));(case side2=>exact J3.out);(case side3=>exact Kd.C_q (Kd.C_below J4.out HB.out));(case side4=>exact J5.out);rintro e w6 ⟨rfl,hb⟩;refine ⟨_,rfl,?_⟩;refine ap4 (Kd.V_below (by (with_reducible repeat (first|apply Kd.V_alloc|apply Kd.V_drewN|apply Kd.V_drew));exact j4.out) hb) (Kd.V_below (by (with_reducible repeat (first|apply Kd.V_alloc|apply Kd.V_drewN|apply Kd.V_drew));exact k9.out) hb) (blk_below (blkP b4) hb) (below_step (belowP HB) hb) ?_;clear j4 k9 b4 HB;intro j4 k9 b4 HB)|((with_reducible refine gate_callee (f:=39) rfl ?_);refine goesL_ (some 27) rfl rfl Try.func39 (by kernel_rfl) rfl #[.int .i64 r2] rfl tz0 ?_;(with_reducible refine (nodeset_Nodes.calls k r2 b3 _ A3.out).mono ?_);rintro e w7 ⟨P1,rfl,g4,hb⟩;refine ⟨_,rfl,?_⟩;refine ap5 (Kd.V_elder' (by (with_reducible repeat (first|apply Kd.V_alloc|apply Kd.V_drewN|apply Kd.V_drew));exact j4.out) (Kd.R_base g4) hb) (Kd.V_elder' (by (with_reducible repeat (first|apply Kd.V_alloc|apply Kd.V_drewN|apply Kd.V_drew));exact k9.out) (Kd.R_base g4) hb) (Kd.R_lower (Kd.R_newM (M:=fun k_=>(w.heap.size≤k_)) g4 (below_size (belowP HB)) (fun k_ h_=>h_)) (below_size (belowP HB))) (blk_below (blkP b4) hb) (below_step (belowP HB) hb) ?_;clear j4 k9 b4 HB;intro j4 k9 z3 b4 HB;obtain ⟨r3,e3,J7⟩:=Kd.R_slice z3.out;subst J7))
 go_loopg [3,29] k (fun kq v3 J8 w'=>∃ (n4:List ByteArray) (b7:Int),J8 = .int .i64 b7∧Aside0 (nomination_voted.l0 kq n4 b3 (b3.length:Int) b7 e2 f8 f9 g3 g0 e4 e5 e6 b9 g1 g2 b0=some r)∧Aside0 (kq≤k)∧Aside0 (Kd.V Kd.string 9 w' w.heap.size (fun k_=>((d8 k_∨d9 k_)∨w.heap.size≤k_)∧some k_≠((.slice r3 b3.length e3):Value).ownBlock∧k_≠b5) v3 n4)∧Aside0 (Kd.R (Kd.int .i64) 3 w' w.heap.size (fun k_=>(w.heap.size≤k_)) (.slice r3 b3.length e3) b3)∧Aside0 (Kd.V Kd.string 9 w' w.heap.size (fun k_=>((d8 k_∨d9 k_)∨w.heap.size≤k_)∧some k_≠((.slice r3 b3.length e3):Value).ownBlock∧k_≠b5) (.slice i1 b9.length i2) b9)∧Aside0 (Kd.V k48 48 w' w.heap.size (fun k_=>((d8 k_∨d9 k_)∨w.heap.size≤k_)∧some k_≠((.slice r3 b3.length e3):Value).ownBlock∧k_≠b5) (.slice k8 b0.length h4) b0)∧Aside0 (w'.heap[b5]? = some (.cells #[.int .i64 e2,.int .i64 f8,.int .i64 f9,.int .i64 g3,.int .i64 g0,(.slice l6 e4.length l7),(.slice l8 e5.length l9),.string e6,(.slice i1 b9.length i2),(.slice m2 g1.length m3),(.slice m4 g2.length m5),(.slice k8 b0.length h4)] 33 (0,0)))∧Aside0 (Below w.heap.size w w'))
 case atStart=>exact ⟨(b9),(0),tz3,H',⟨Nat.le_refl _⟩,⟨by (with_reducible repeat (first|apply Kd.V_alloc|apply Kd.V_drewN|apply Kd.V_drew));exact Kd.V_mono j4.out (fun _ hk=>⟨hk.1.1,⟨hk.2,hk.1.2⟩⟩)⟩,⟨by (with_reducible repeat (first|apply Kd.R_alloc|apply Kd.R_drewN|apply Kd.R_drew));exact Kd.R_mono z3.out (fun _ hk=>hk.1)⟩,⟨by (with_reducible repeat (first|apply Kd.V_alloc|apply Kd.V_drewN|apply Kd.V_drew));exact Kd.V_mono j4.out (fun _ hk=>⟨hk.1.1,⟨hk.2,hk.1.2⟩⟩)⟩,⟨by (with_reducible repeat (first|apply Kd.V_alloc|apply Kd.V_drewN|apply Kd.V_drew));exact Kd.V_mono k9.out (fun _ hk=>⟨hk.1.1,⟨hk.2,hk.1.2⟩⟩)⟩,⟨by refine blkQ ?_;exact b4.out⟩,⟨by repeat (first|(with_reducible first|exact HB.out|apply below_alloc|apply pw_below_drewN|apply below_drew1|refine below_set ?_ l3.out)|exact HB.out)⟩⟩
 case round=>
  clear H'
  try clear s9
  try clear t0
  try clear t9
  try clear u0
  try clear t1
  try clear t2
  try clear t3
  try clear t4
  try clear t5
  try clear t6
  try clear t7
  try clear t8
  try clear u1
  try clear u2
  try clear v2
  try clear v4
  try clear u3
  try clear u4
  try clear u5
  try clear u6
  try clear u7
  try clear u9
  try clear v0
  try clear v1
  try clear b4
  try clear HB
  obtain ⟨n4,b7,rfl,HA,i3,d1,b8,e0,d6,b4,HB⟩:=hrel
  cases gk with
  | zero=>exact absurd HA.out (by simp [nomination_voted.l0])
  | succ k1=>
   have H:=HA.out
   clear HA
   simp only [nomination_voted.l0] at H
   by_cases c9:b7 < (b3.length:Int)
   ·rw [if_pos c9] at H
    have v5:decide (b7 < (b3.length:Int))=true:=decide_eq_true c9
    clear c9
    by_cases c10:0≤b7
    ·rw [if_pos c10] at H
     have z4:decide (0≤b7)=true:=decide_eq_true c10
     clear c10
     by_cases o7:b7 < (b3.length:Int)
     ·rw [if_pos o7] at H
      have z5:decide (b7 < (b3.length:Int))=true:=decide_eq_true o7
      clear o7
      by_cases m0:(rd b3 b7)=e2
      ·rw [if_pos m0] at H
       have v6:((rd b3 b7) == e2)=true:=beq_iff_eq.mpr m0
       have v7:((rd b3 b7) != e2)=false:=bne_eq_false_iff_eq.mpr m0
       clear m0
       by_cases m1:e6.toList=([]:List UInt8)
       ·rw [if_pos m1] at H
        have v8:(e6.toList == ([]:List UInt8))=true:=beq_iff_eq.mpr m1
        have v9:(e6.toList != ([]:List UInt8))=false:=bne_eq_false_iff_eq.mpr m1
        clear m1
        have H':=Aside0.mk H
        clear H
        have h6:0≤(b7:Int):=of_decide_eq_true tz2
        have h7:b7 < (b3.length:Int):=of_decide_eq_true tz2
        obtain ⟨e7,p8,r4⟩:=Kd.at_int (Kd.R_reads' b8.out).2.2 b7 h6 h7
        cases p8
        replace h6:=eq_true h6
        replace h7:=eq_true h7
        obtain ⟨z6,z7,z8,z9,A0,A1,A4,A5,A6,A7,A8,A9⟩:=cells12 b4.out
        obtain ⟨B0,B2,C0,C1,C2,C3,C4,C5,C6,C7,C8,C9⟩:=froz12 b4.out
        go_wp2
        go_roundg k1
        case measure=>have:=i3.out;omega
        case rel=>exact ⟨(n4),(wrap64 (b7 + 1)),tz3,H',⟨by have:=i3.out;omega⟩,⟨by (with_reducible repeat (first|apply Kd.V_alloc|apply Kd.V_drewN|apply Kd.V_drew));exact d1.out⟩,⟨by (with_reducible repeat (first|apply Kd.R_alloc|apply Kd.R_drewN|apply Kd.R_drew));exact b8.out⟩,⟨by (with_reducible repeat (first|apply Kd.V_alloc|apply Kd.V_drewN|apply Kd.V_drew));exact e0.out⟩,⟨by (with_reducible repeat (first|apply Kd.V_alloc|apply Kd.V_drewN|apply Kd.V_drew));exact d6.out⟩,⟨by refine blkQ ?_;exact b4.out⟩,⟨by repeat (first|(with_reducible first|exact HB.out|apply below_alloc|apply pw_below_drewN|apply below_drew1|refine below_set ?_ l3.out)|exact HB.out)⟩⟩
       ·rw [if_neg m1] at H
        have v8:(e6.toList == ([]:List UInt8))=false:=beq_eq_false_iff_ne.mpr m1
        have v9:(e6.toList != ([]:List UInt8))=true:=bne_iff_ne.mpr m1
        replace H:=Option.bind_eq_some_iff.mp H
        obtain ⟨p2,D0,H⟩:=H
        replace H:(nomination_voted.l0 k1 p2 b3 (b3.length:Int) (wrap64 (b7 + 1)) e2 f8 f9 g3 g0 e4 e5 e6 b9 g1 g2 b0)=some r:=H
        have J9:=Aside0.mk D0
        clear D0
        have H':=Aside0.mk H
        clear H
        have h6:0≤(b7:Int):=of_decide_eq_true tz2
        have h7:b7 < (b3.length:Int):=of_decide_eq_true tz2
        obtain ⟨e7,p8,r4⟩:=Kd.at_int (Kd.R_reads' b8.out).2.2 b7 h6 h7
        cases p8
        replace h6:=eq_true h6
        replace h7:=eq_true h7
        obtain ⟨D1,D2,D3,D4,D5,D6,D7,D8,D9,E0,E1,E2⟩:=cells12 b4.out
        obtain ⟨E3,E4,E5,E6,E7,E8,E9,F0,F1,F2,F3,F4⟩:=froz12 b4.out
        obtain ⟨K0,K1,K2⟩:=Kd.V_slice d1.out
        subst K2
        go_wp2_with (first|((with_reducible refine gate_callee (f:=26) rfl ?_);refine goesL_ (some 43) rfl rfl Try.func26 (by kernel_rfl) rfl #[.slice K0 n4.length K1,.string e6] rfl tz0 ?_;(with_reducible refine (nomination_put.calls k1 (fun k_=>(((d8 k_∨d9 k_)∨w.heap.size≤k_)∧(some k_≠(.slice (some e7) b3.length e3:Value).ownBlock∧k_≠b5))) _ _ n4 e6 p2 _ ?side1 J9.out).mono ?_);(case side1=>exact d1.out);rintro e P2 ⟨P3,rfl,g4,hb⟩;refine ⟨_,rfl,?_⟩;refine ap7 (Kd.V_below (by (with_reducible repeat (first|apply Kd.V_alloc|apply Kd.V_drewN|apply Kd.V_drew));exact d1.out) hb) (Kd.R_below (by (with_reducible repeat (first|apply Kd.R_alloc|apply Kd.R_drewN|apply Kd.R_drew));exact b8.out) hb) (Kd.V_below (by (with_reducible repeat (first|apply Kd.V_alloc|apply Kd.V_drewN|apply Kd.V_drew));exact e0.out) hb) (Kd.V_below (by (with_reducible repeat (first|apply Kd.V_alloc|apply Kd.V_drewN|apply Kd.V_drew));exact d6.out) hb) (Kd.V_lower (Kd.V_mono (ok':=fun k_=>((d8 k_∨d9 k_)∨w.heap.size≤k_)∧some k_≠(.slice (some e7) b3.length e3:Value).ownBlock∧k_≠b5) g4 (fun k_ hk_=>⟨Or.elim hk_ (fun hs_=>hs_.1) (fun hn_=>(.inr (Nat.le_trans (below_size (belowP HB)) hn_))),Or.elim hk_ (fun hs_=>hs_.2.1) (fun hn_=>(Kd.fresh' (Kd.R_lt (by (with_reducible repeat (first|apply Kd.R_alloc|apply Kd.R_drewN|apply Kd.R_drew));exact b8.out)) k_ hn_)),Or.elim hk_ (fun hs_=>hs_.2.2) (fun hn_=>(Kd.freshB (blkP b4) k_ hn_))⟩)) (below_size (belowP HB))) (blk_below (blkP b4) hb) (below_step (belowP HB) hb) ?_;clear d1 b8 e0 d6 b4 HB;intro d1 b8 e0 d6 K3 b4 HB))
        go_roundg k1
        case measure=>have:=i3.out;omega
        case rel=>exact ⟨(p2),(wrap64 (b7 + 1)),tz3,H',⟨by have:=i3.out;omega⟩,⟨by (with_reducible repeat (first|apply Kd.V_alloc|apply Kd.V_drewN|apply Kd.V_drew));exact K3.out⟩,⟨by (with_reducible repeat (first|apply Kd.R_alloc|apply Kd.R_drewN|apply Kd.R_drew));exact b8.out⟩,⟨by (with_reducible repeat (first|apply Kd.V_alloc|apply Kd.V_drewN|apply Kd.V_drew));exact e0.out⟩,⟨by (with_reducible repeat (first|apply Kd.V_alloc|apply Kd.V_drewN|apply Kd.V_drew));exact d6.out⟩,⟨by refine blkQ ?_;exact b4.out⟩,⟨by repeat (first|(with_reducible first|exact HB.out|apply below_alloc|apply pw_below_drewN|apply below_drew1|refine below_set ?_ l3.out)|exact HB.out)⟩⟩
      ·rw [if_neg m0] at H
       have v6:((rd b3 b7) == e2)=false:=beq_eq_false_iff_ne.mpr m0
       have v7:((rd b3 b7) != e2)=true:=bne_iff_ne.mpr m0
       have H':=Aside0.mk H
       clear H
       have h6:0≤(b7:Int):=of_decide_eq_true tz2
       have h7:b7 < (b3.length:Int):=of_decide_eq_true tz2
       obtain ⟨e7,p8,r4⟩:=Kd.at_int (Kd.R_reads' b8.out).2.2 b7 h6 h7
       cases p8
       replace h6:=eq_true h6
       replace h7:=eq_true h7
       obtain ⟨F5,F6,F7,F8,F9,G0,G1,G2,G3,G4,G5,G6⟩:=cells12 b4.out
       obtain ⟨G7,G8,G9,H0,H1,H2,H3,H4,H5,H6,H7,H8⟩:=froz12 b4.out
       go_wp2
       go_loopg [3,47] k1 (fun kq v3 K4 w'=>∃ (m6:List ByteArray) (b1:Int),K4 = .int .i64 b1∧Aside0 (nomination_voted.l1 kq m6 (rd b3 b7) b3 (b3.length:Int) b7 b0 (b0.length:Int) b1 e2 f8 f9 g3 g0 e4 e5 e6 b9 g1 g2 b0=some r)∧Aside0 (kq≤k1)∧Aside0 (Kd.V Kd.string 9 w' w.heap.size (fun k_=>((d8 k_∨d9 k_)∨w.heap.size≤k_)∧some k_≠((.slice (some e7) b3.length e3):Value).ownBlock∧k_≠b5) v3 m6)∧Aside0 (Kd.R (Kd.int .i64) 3 w' w.heap.size (fun k_=>(w.heap.size≤k_)) (.slice (some e7) b3.length e3) b3)∧Aside0 (Kd.V k48 48 w' w.heap.size (fun k_=>((d8 k_∨d9 k_)∨w.heap.size≤k_)∧some k_≠((.slice (some e7) b3.length e3):Value).ownBlock∧k_≠b5) (.slice k8 b0.length h4) b0)∧Aside0 (Kd.V Kd.string 9 w' w.heap.size (fun k_=>((d8 k_∨d9 k_)∨w.heap.size≤k_)∧some k_≠((.slice (some e7) b3.length e3):Value).ownBlock∧k_≠b5) (.slice i1 b9.length i2) b9)∧Aside0 (Kd.V k48 48 w' w.heap.size (fun k_=>((d8 k_∨d9 k_)∨w.heap.size≤k_)∧some k_≠((.slice (some e7) b3.length e3):Value).ownBlock∧k_≠b5) (.slice k8 b0.length h4) b0)∧Aside0 (w'.heap[b5]? = some (.cells #[.int .i64 e2,.int .i64 f8,.int .i64 f9,.int .i64 g3,.int .i64 g0,(.slice l6 e4.length l7),(.slice l8 e5.length l9),.string e6,(.slice i1 b9.length i2),(.slice m2 g1.length m3),(.slice m4 g2.length m5),(.slice k8 b0.length h4)] 33 (0,0)))∧Aside0 (Below w.heap.size w w'))
       case atStart=>exact ⟨(n4),(0),tz3,H',⟨Nat.le_refl _⟩,⟨by (with_reducible repeat (first|apply Kd.V_alloc|apply Kd.V_drewN|apply Kd.V_drew));exact d1.out⟩,⟨by (with_reducible repeat (first|apply Kd.R_alloc|apply Kd.R_drewN|apply Kd.R_drew));exact b8.out⟩,⟨by (with_reducible repeat (first|apply Kd.V_alloc|apply Kd.V_drewN|apply Kd.V_drew));exact d6.out⟩,⟨by (with_reducible repeat (first|apply Kd.V_alloc|apply Kd.V_drewN|apply Kd.V_drew));exact e0.out⟩,⟨by (with_reducible repeat (first|apply Kd.V_alloc|apply Kd.V_drewN|apply Kd.V_drew));exact d6.out⟩,⟨by refine blkQ ?_;exact b4.out⟩,⟨by repeat (first|(with_reducible first|exact HB.out|apply below_alloc|apply pw_below_drewN|apply below_drew1|refine below_set ?_ l3.out)|exact HB.out)⟩⟩
       case round=>
        clear H'
        try clear c9
        try clear v5
        try clear c10
        try clear z4
        try clear o7
        try clear z5
        try clear m0
        try clear v6
        try clear v7
        try clear m1
        try clear v8
        try clear v9
        try clear z6
        try clear z7
        try clear A8
        try clear A9
        try clear z8
        try clear z9
        try clear A0
        try clear A1
        try clear A4
        try clear A5
        try clear A6
        try clear A7
        try clear D1
        try clear D2
        try clear E1
        try clear E2
        try clear D3
        try clear D4
        try clear D5
        try clear D6
        try clear D7
        try clear D8
        try clear D9
        try clear E0
        try clear F5
        try clear F6
        try clear G5
        try clear G6
        try clear F7
        try clear F8
        try clear F9
        try clear G0
        try clear G1
        try clear G2
        try clear G3
        try clear G4
        try clear s9
        try clear t0
        try clear t9
        try clear u0
        try clear t1
        try clear t2
        try clear t3
        try clear t4
        try clear t5
        try clear t6
        try clear t7
        try clear t8
        try clear B0
        try clear B2
        try clear C8
        try clear C9
        try clear C0
        try clear C1
        try clear C2
        try clear C3
        try clear C4
        try clear C5
        try clear C6
        try clear C7
        try clear E3
        try clear E4
        try clear F3
        try clear F4
        try clear E5
        try clear E6
        try clear E7
        try clear E8
        try clear E9
        try clear F0
        try clear F1
        try clear F2
        try clear G7
        try clear G8
        try clear H7
        try clear H8
        try clear G9
        try clear H0
        try clear H1
        try clear H2
        try clear H3
        try clear H4
        try clear H5
        try clear H6
        try clear u1
        try clear u2
        try clear v2
        try clear v4
        try clear u3
        try clear u4
        try clear u5
        try clear u6
        try clear u7
        try clear u9
        try clear v0
        try clear v1
        try clear r4
        try clear h6
        try clear h7
        try clear d1
        try clear b8
        try clear e0
        try clear d6
        try clear b4
        try clear HB
        obtain ⟨m6,b1,rfl,HA,m7,d1,b8,e8,e0,d6,b4,HB⟩:=hrel
        cases gk with
        | zero=>exact absurd HA.out (by simp [nomination_voted.l1])
        | succ k2=>
         have H:=HA.out
         clear HA
         simp only [nomination_voted.l1] at H
         by_cases n5:b1 < (b0.length:Int)
         ·rw [if_pos n5] at H
          have H9:decide (b1 < (b0.length:Int))=true:=decide_eq_true n5
          clear n5
          by_cases p9:0≤b1
          ·rw [if_pos p9] at H
           have K5:decide (0≤b1)=true:=decide_eq_true p9
           clear p9
           by_cases q0:b1 < (b0.length:Int)
           ·rw [if_pos q0] at H
            have K6:decide (b1 < (b0.length:Int))=true:=decide_eq_true q0
            clear q0
            by_cases m8:((rd_T48 b0 b1).f0)=(rd b3 b7)
            ·rw [if_pos m8] at H
             have I0:(((rd_T48 b0 b1).f0) == (rd b3 b7))=true:=beq_iff_eq.mpr m8
             have I1:(((rd_T48 b0 b1).f0) != (rd b3 b7))=false:=bne_eq_false_iff_eq.mpr m8
             clear m8
             obtain ⟨w0,w1⟩:∃ y_:List (S48),y_=(([(⟨(rd_T48 b0 b1).f0,(rd_T48 b0 b1).f1,(⟨(rd_T48 b0 b1).f2.f0,(rd_T48 b0 b1).f2.f1,(rd_T48 b0 b1).f2.f2⟩:S30),(rd_T48 b0 b1).f3,(rd_T48 b0 b1).f4⟩:S48)]:List (S48))):=⟨_,rfl⟩
             replace H:((nomination_all.f k2 w0).bind fun e1=>(nomination_voted.l2 k2 m6 (rd b3 b7) b3 (b3.length:Int) b7 b0 (b0.length:Int) b1 e1 (e1.length:Int) 0 e2 f8 f9 g3 g0 e4 e5 e6 b9 g1 g2 b0))=some r:=rH w1 H
             have I2:=Aside0.mk w1
             clear w1
             replace H:=Option.bind_eq_some_iff.mp H
             obtain ⟨e1,I3,H⟩:=H
             replace H:(nomination_voted.l2 k2 m6 (rd b3 b7) b3 (b3.length:Int) b7 b0 (b0.length:Int) b1 e1 (e1.length:Int) 0 e2 f8 f9 g3 g0 e4 e5 e6 b9 g1 g2 b0)=some r:=H
             have K7:=Aside0.mk I3
             clear I3
             have H':=Aside0.mk H
             clear H
             have l4:0≤(b1:Int):=of_decide_eq_true tz2
             have l5:b1 < (b0.length:Int):=of_decide_eq_true tz2
             obtain ⟨q1,c0,c1,d0,d2,d3,d4,d5,d7,w2,I4,I5,I6,r5,r6,r7,r8,q2,q3,q4,q5,q6,q7,q8,q9⟩:=at_T48 (Kd.V_reads' e8.out).2.2 b1 l4 l5
             cases w2
             obtain ⟨K8,hce292,hMe292,j5⟩:=Kd.V_get e8.out z48 b1 l4 (by first|exact l5|exact of_decide_eq_true tz2|(have e_:=(Kd.V_reads' e8.out).1;omega))
             obtain ⟨K9,L0,L1,L2,L3,L4,L5,L6,rfl,n6,n7,n8,n9,o0,o1,o2,o3⟩:=k48_openF hMe292
             have hv292_3:=j5 3 _ rfl
             rw [add_field _ _ 3 (by omega)] at hv292_3
             replace hv292_3:=Option.some.inj (hv292_3.symm.trans r5)
             injection hv292_3 with hva_ hvn_ hvc_
             rw [hva_] at n7
             rw [hvc_] at n6
             have g8:=Aside0.mk (show Kd.V (Kd.int .i64) 3 _ w.heap.size _ _ ((rd_T48 b0 b1).f2.f1) from Kd.V_mk n6 n7)
             clear hva_ hvn_ hvc_ n7 n6
             have hv292_4:=j5 4 _ rfl
             rw [add_field _ _ 4 (by omega)] at hv292_4
             replace hv292_4:=Option.some.inj (hv292_4.symm.trans r6)
             injection hv292_4 with hva_ hvn_ hvc_
             rw [hva_] at n9
             rw [hvc_] at n8
             have g9:=Aside0.mk (show Kd.V k30 30 _ w.heap.size _ _ ((rd_T48 b0 b1).f2.f2) from Kd.V_mk n8 n9)
             clear hva_ hvn_ hvc_ n9 n8
             have hv292_5:=j5 5 _ rfl
             rw [add_field _ _ 5 (by omega)] at hv292_5
             replace hv292_5:=Option.some.inj (hv292_5.symm.trans r7)
             injection hv292_5 with hva_ hvn_ hvc_
             rw [hva_] at o1
             rw [hvc_] at o0
             have h0:=Aside0.mk (show Kd.V Kd.string 9 _ w.heap.size _ _ ((rd_T48 b0 b1).f3) from Kd.V_mk o0 o1)
             clear hva_ hvn_ hvc_ o1 o0
             have hv292_6:=j5 6 _ rfl
             rw [add_field _ _ 6 (by omega)] at hv292_6
             replace hv292_6:=Option.some.inj (hv292_6.symm.trans r8)
             injection hv292_6 with hva_ hvn_ hvc_
             rw [hva_] at o3
             rw [hvc_] at o2
             have h1:=Aside0.mk (show Kd.V Kd.string 9 _ w.heap.size _ _ ((rd_T48 b0 b1).f4) from Kd.V_mk o2 o3)
             clear hva_ hvn_ hvc_ o3 o2 j5 hce292
             have e9:=Aside0.mk q3
             have L7:=Aside0.mk q2
             clear q3 q2
             have f5:=Aside0.mk q5
             have L8:=Aside0.mk q4
             clear q5 q4
             have f6:=Aside0.mk q7
             have L9:=Aside0.mk q6
             clear q7 q6
             have f7:=Aside0.mk q9
             have M0:=Aside0.mk q8
             clear q9 q8
             replace l4:=eq_true l4
             replace l5:=eq_true l5
             go_wp2_with (first|((with_reducible refine gate_dst (N:=9) rfl ?_);refine box_event ?hg (N:=9) ?hd (cs:=#[.int .i64 0,.int .i64 0,.int .i64 0,.slice none 0 0,.slice none 0 0,.slice none 0 0,.slice none 0 0]) (t:=48) ?hr ?_;(case hd=>rfl);(case hg=>rfl);(case hr=>first|(go_simp;done)|(go_simp;rfl));intro b2 hg m9 hbox hb;refine ap20 (Kd.V_below (Kd.V_elderB (by (with_reducible repeat (first|apply Kd.V_alloc|apply Kd.V_drewN|apply Kd.V_drew));exact d1.out) b2 (Nat.le_of_eq hg.symm)) hb) (Kd.R_below (by (with_reducible repeat (first|apply Kd.R_alloc|apply Kd.R_drewN|apply Kd.R_drew));exact b8.out) hb) (Kd.V_below (Kd.V_elderB (by (with_reducible repeat (first|apply Kd.V_alloc|apply Kd.V_drewN|apply Kd.V_drew));exact e8.out) b2 (Nat.le_of_eq hg.symm)) hb) (Kd.V_below (Kd.V_elderB (by (with_reducible repeat (first|apply Kd.V_alloc|apply Kd.V_drewN|apply Kd.V_drew));exact e0.out) b2 (Nat.le_of_eq hg.symm)) hb) (Kd.V_below (Kd.V_elderB (by (with_reducible repeat (first|apply Kd.V_alloc|apply Kd.V_drewN|apply Kd.V_drew));exact d6.out) b2 (Nat.le_of_eq hg.symm)) hb) (Kd.V_below (Kd.V_elderB (by (with_reducible repeat (first|apply Kd.V_alloc|apply Kd.V_drewN|apply Kd.V_drew));exact g8.out) b2 (Nat.le_of_eq hg.symm)) hb) (Kd.V_below (Kd.V_elderB (by (with_reducible repeat (first|apply Kd.V_alloc|apply Kd.V_drewN|apply Kd.V_drew));exact g9.out) b2 (Nat.le_of_eq hg.symm)) hb) (Kd.V_below (Kd.V_elderB (by (with_reducible repeat (first|apply Kd.V_alloc|apply Kd.V_drewN|apply Kd.V_drew));exact h0.out) b2 (Nat.le_of_eq hg.symm)) hb) (Kd.V_below (Kd.V_elderB (by (with_reducible repeat (first|apply Kd.V_alloc|apply Kd.V_drewN|apply Kd.V_drew));exact h1.out) b2 (Nat.le_of_eq hg.symm)) hb) (blk_below (blkP b4) hb) (Kd.C_below (by repeat (first|(with_reducible exact e9.out)|(with_reducible refine Kd.C_alloc ?_ _)|(with_reducible refine Kd.C_drewN ?_ _)|(with_reducible refine Kd.C_drew ?_)|exact e9.out)) hb) (Kd.C_below (by repeat (first|(with_reducible exact f5.out)|(with_reducible refine Kd.C_alloc ?_ _)|(with_reducible refine Kd.C_drewN ?_ _)|(with_reducible refine Kd.C_drew ?_)|exact f5.out)) hb) (Kd.C_below (by repeat (first|(with_reducible exact f6.out)|(with_reducible refine Kd.C_alloc ?_ _)|(with_reducible refine Kd.C_drewN ?_ _)|(with_reducible refine Kd.C_drew ?_)|exact f6.out)) hb) (Kd.C_below (by repeat (first|(with_reducible exact f7.out)|(with_reducible refine Kd.C_alloc ?_ _)|(with_reducible refine Kd.C_drewN ?_ _)|(with_reducible refine Kd.C_drew ?_)|exact f7.out)) hb) (below_step (belowP HB) hb) (hbox) ((by rw [hg];exact (below_size (belowP HB)):w.heap.size≤b2)) ((by rw [hg];exact (below_size (belowP HB)):w.heap.size≤b2)) ((by rw [hg];exact Nat.ne_of_lt (blk_lt (blkP b4)):b5≠b2)) ((by rw [hg];exact Nat.ne_of_gt (blk_lt (blkP b4)):b2≠b5)) ?_;clear d1 b8 e8 e0 d6 g8 g9 h0 h1 b4 e9 f5 f6 f7 HB;intro d1 b8 e8 e0 d6 g8 g9 h0 h1 b4 e9 f5 f6 f7 HB b6 GW293 r0 g5 w3;clear hb hbox hg;have P4:=w3.out;have P5:=g5.out;have M1:m9.cell? ⟨b2,0,none⟩=some (.int .i64 0):=(blk_cell b6.out 0).trans rfl;have M2:m9.cell? ⟨b2,1,none⟩=some (.int .i64 0):=(blk_cell b6.out 1).trans rfl;have M3:m9.cell? ⟨b2,2,none⟩=some (.int .i64 0):=(blk_cell b6.out 2).trans rfl;have M4:m9.cell? ⟨b2,3,none⟩=some (.slice none 0 0):=(blk_cell b6.out 3).trans rfl;have M5:m9.cell? ⟨b2,4,none⟩=some (.slice none 0 0):=(blk_cell b6.out 4).trans rfl;have M6:m9.cell? ⟨b2,5,none⟩=some (.slice none 0 0):=(blk_cell b6.out 5).trans rfl;have M7:m9.cell? ⟨b2,6,none⟩=some (.slice none 0 0):=(blk_cell b6.out 6).trans rfl;have M8:=blk_frozen b6.out 0;have M9:=blk_frozen b6.out 1;have N0:=blk_frozen b6.out 2;have N1:=blk_frozen b6.out 3;have N2:=blk_frozen b6.out 4;have N3:=blk_frozen b6.out 5;have N4:=blk_frozen b6.out 6)|((with_reducible refine gate_dst (N:=56) rfl ?_);refine Kd.N_lit k48 _ 48 ?hg (N':=56) ?hd (xs:=([(⟨(rd_T48 b0 b1).f0,(rd_T48 b0 b1).f1,(⟨(rd_T48 b0 b1).f2.f0,(rd_T48 b0 b1).f2.f1,(rd_T48 b0 b1).f2.f2⟩:S30),(rd_T48 b0 b1).f3,(rd_T48 b0 b1).f4⟩:S48)]:List (S48))) (inner:=[.int .i64 ((rd_T48 b0 b1).f0),.int .i64 ((rd_T48 b0 b1).f1),.int .i64 ((rd_T48 b0 b1).f2.f0),.slice c0 ((rd_T48 b0 b1).f2.f1).length c1,.slice d0 ((rd_T48 b0 b1).f2.f2).length d2,.slice d3 ((rd_T48 b0 b1).f3).length d4,.slice d5 ((rd_T48 b0 b1).f4).length d7]) (ok:=(fun k_=>((d8 k_∨d9 k_)∨w.heap.size≤k_)∧some k_≠(.slice (some e7) b3.length e3:Value).ownBlock∧k_≠b5∧k_≠b2)) (okp:=(fun k_=>((d8 k_∨d9 k_)∨w.heap.size≤k_)∧some k_≠(.slice (some e7) b3.length e3:Value).ownBlock∧k_≠b5∧k_≠b2)) ?hr ?hp (fun _ hk=>hk) (by simp only [World.size_setCell];exact (show ∀ k_,m9.heap.size≤k_→(fun k_=>((d8 k_∨d9 k_)∨w.heap.size≤k_)∧some k_≠(.slice (some e7) b3.length e3:Value).ownBlock∧k_≠b5∧k_≠b2) k_ from fun k_ hk=>⟨(.inr (Nat.le_trans (below_size (belowP HB)) hk)),Kd.fresh' (Kd.R_lt b8.out) k_ hk,Kd.freshB b4.out k_ hk,Kd.freshB b6.out k_ hk⟩) _ (Nat.le_refl _)) (Below.refl _ _) (Nat.le_refl _) (by simp) ?_;(case hd=>rfl);(case hg=>rfl);(case hr=>first|(go_simp;done)|(go_simp;rfl));(case hp=>exact (Reps.c7 (show Kd.FK k48 _ _ (⟨(rd_T48 b0 b1).f0,(rd_T48 b0 b1).f1,(⟨(rd_T48 b0 b1).f2.f0,(rd_T48 b0 b1).f2.f1,(rd_T48 b0 b1).f2.f2⟩:S30),(rd_T48 b0 b1).f3,(rd_T48 b0 b1).f4⟩:S48) [.int .i64 ((rd_T48 b0 b1).f0),.int .i64 ((rd_T48 b0 b1).f1),.int .i64 ((rd_T48 b0 b1).f2.f0),.slice c0 ((rd_T48 b0 b1).f2.f1).length c1,.slice d0 ((rd_T48 b0 b1).f2.f2).length d2,.slice d3 ((rd_T48 b0 b1).f3).length d4,.slice d5 ((rd_T48 b0 b1).f4).length d7] from (k48_mkF _ _ (⟨(rd_T48 b0 b1).f0,(rd_T48 b0 b1).f1,(⟨(rd_T48 b0 b1).f2.f0,(rd_T48 b0 b1).f2.f1,(rd_T48 b0 b1).f2.f2⟩:S30),(rd_T48 b0 b1).f3,(rd_T48 b0 b1).f4⟩:S48) (Kd.V_reads' (Kd.V_mono (ok':=(fun k_=>((d8 k_∨d9 k_)∨w.heap.size≤k_)∧some k_≠(.slice (some e7) b3.length e3:Value).ownBlock∧k_≠b5∧k_≠b2)) ((Kd.V_far (p:=⟨b2,6,none⟩) (Kd.V_far (p:=⟨b2,5,none⟩) (Kd.V_far (p:=⟨b2,4,none⟩) (Kd.V_far (p:=⟨b2,3,none⟩) (Kd.V_far (p:=⟨b2,2,none⟩) (Kd.V_far (p:=⟨b2,1,none⟩) (Kd.V_far (p:=⟨b2,0,none⟩) (Kd.V_mono g8.out (fun k_ hk=>(⟨hk,hk.2⟩:_∧k_≠b2))) (fun _ hk=>hk.2) (.int .i64 ((rd_T48 b0 b1).f0))) (fun _ hk=>hk.2) (.int .i64 ((rd_T48 b0 b1).f1))) (fun _ hk=>hk.2) (.int .i64 ((rd_T48 b0 b1).f2.f0))) (fun _ hk=>hk.2) (.slice c0 ((rd_T48 b0 b1).f2.f1).length c1)) (fun _ hk=>hk.2) (.slice d0 ((rd_T48 b0 b1).f2.f2).length d2)) (fun _ hk=>hk.2) (.slice d3 ((rd_T48 b0 b1).f3).length d4)) (fun _ hk=>hk.2) (.slice d5 ((rd_T48 b0 b1).f4).length d7))) (fun k_ hk=>⟨hk.1.1.1,⟨hk.1.1.2.1,⟨hk.1.1.2.2,hk.1.2⟩⟩⟩))).2.1 (Kd.V_F (Kd.V_mono (ok':=(fun k_=>((d8 k_∨d9 k_)∨w.heap.size≤k_)∧some k_≠(.slice (some e7) b3.length e3:Value).ownBlock∧k_≠b5∧k_≠b2)) ((Kd.V_far (p:=⟨b2,6,none⟩) (Kd.V_far (p:=⟨b2,5,none⟩) (Kd.V_far (p:=⟨b2,4,none⟩) (Kd.V_far (p:=⟨b2,3,none⟩) (Kd.V_far (p:=⟨b2,2,none⟩) (Kd.V_far (p:=⟨b2,1,none⟩) (Kd.V_far (p:=⟨b2,0,none⟩) (Kd.V_mono g8.out (fun k_ hk=>(⟨hk,hk.2⟩:_∧k_≠b2))) (fun _ hk=>hk.2) (.int .i64 ((rd_T48 b0 b1).f0))) (fun _ hk=>hk.2) (.int .i64 ((rd_T48 b0 b1).f1))) (fun _ hk=>hk.2) (.int .i64 ((rd_T48 b0 b1).f2.f0))) (fun _ hk=>hk.2) (.slice c0 ((rd_T48 b0 b1).f2.f1).length c1)) (fun _ hk=>hk.2) (.slice d0 ((rd_T48 b0 b1).f2.f2).length d2)) (fun _ hk=>hk.2) (.slice d3 ((rd_T48 b0 b1).f3).length d4)) (fun _ hk=>hk.2) (.slice d5 ((rd_T48 b0 b1).f4).length d7))) (fun k_ hk=>⟨hk.1.1.1,⟨hk.1.1.2.1,⟨hk.1.1.2.2,hk.1.2⟩⟩⟩))) (Kd.V_reads' (Kd.V_mono (ok':=(fun k_=>((d8 k_∨d9 k_)∨w.heap.size≤k_)∧some k_≠(.slice (some e7) b3.length e3:Value).ownBlock∧k_≠b5∧k_≠b2)) ((Kd.V_far (p:=⟨b2,6,none⟩) (Kd.V_far (p:=⟨b2,5,none⟩) (Kd.V_far (p:=⟨b2,4,none⟩) (Kd.V_far (p:=⟨b2,3,none⟩) (Kd.V_far (p:=⟨b2,2,none⟩) (Kd.V_far (p:=⟨b2,1,none⟩) (Kd.V_far (p:=⟨b2,0,none⟩) (Kd.V_mono g9.out (fun k_ hk=>(⟨hk,hk.2⟩:_∧k_≠b2))) (fun _ hk=>hk.2) (.int .i64 ((rd_T48 b0 b1).f0))) (fun _ hk=>hk.2) (.int .i64 ((rd_T48 b0 b1).f1))) (fun _ hk=>hk.2) (.int .i64 ((rd_T48 b0 b1).f2.f0))) (fun _ hk=>hk.2) (.slice c0 ((rd_T48 b0 b1).f2.f1).length c1)) (fun _ hk=>hk.2) (.slice d0 ((rd_T48 b0 b1).f2.f2).length d2)) (fun _ hk=>hk.2) (.slice d3 ((rd_T48 b0 b1).f3).length d4)) (fun _ hk=>hk.2) (.slice d5 ((rd_T48 b0 b1).f4).length d7))) (fun k_ hk=>⟨hk.1.1.1,⟨hk.1.1.2.1,⟨hk.1.1.2.2,hk.1.2⟩⟩⟩))).2.1 (Kd.V_F (Kd.V_mono (ok':=(fun k_=>((d8 k_∨d9 k_)∨w.heap.size≤k_)∧some k_≠(.slice (some e7) b3.length e3:Value).ownBlock∧k_≠b5∧k_≠b2)) ((Kd.V_far (p:=⟨b2,6,none⟩) (Kd.V_far (p:=⟨b2,5,none⟩) (Kd.V_far (p:=⟨b2,4,none⟩) (Kd.V_far (p:=⟨b2,3,none⟩) (Kd.V_far (p:=⟨b2,2,none⟩) (Kd.V_far (p:=⟨b2,1,none⟩) (Kd.V_far (p:=⟨b2,0,none⟩) (Kd.V_mono g9.out (fun k_ hk=>(⟨hk,hk.2⟩:_∧k_≠b2))) (fun _ hk=>hk.2) (.int .i64 ((rd_T48 b0 b1).f0))) (fun _ hk=>hk.2) (.int .i64 ((rd_T48 b0 b1).f1))) (fun _ hk=>hk.2) (.int .i64 ((rd_T48 b0 b1).f2.f0))) (fun _ hk=>hk.2) (.slice c0 ((rd_T48 b0 b1).f2.f1).length c1)) (fun _ hk=>hk.2) (.slice d0 ((rd_T48 b0 b1).f2.f2).length d2)) (fun _ hk=>hk.2) (.slice d3 ((rd_T48 b0 b1).f3).length d4)) (fun _ hk=>hk.2) (.slice d5 ((rd_T48 b0 b1).f4).length d7))) (fun k_ hk=>⟨hk.1.1.1,⟨hk.1.1.2.1,⟨hk.1.1.2.2,hk.1.2⟩⟩⟩))) (Kd.V_reads' (Kd.V_mono (ok':=(fun k_=>((d8 k_∨d9 k_)∨w.heap.size≤k_)∧some k_≠(.slice (some e7) b3.length e3:Value).ownBlock∧k_≠b5∧k_≠b2)) ((Kd.V_far (p:=⟨b2,6,none⟩) (Kd.V_far (p:=⟨b2,5,none⟩) (Kd.V_far (p:=⟨b2,4,none⟩) (Kd.V_far (p:=⟨b2,3,none⟩) (Kd.V_far (p:=⟨b2,2,none⟩) (Kd.V_far (p:=⟨b2,1,none⟩) (Kd.V_far (p:=⟨b2,0,none⟩) (Kd.V_mono h0.out (fun k_ hk=>(⟨hk,hk.2⟩:_∧k_≠b2))) (fun _ hk=>hk.2) (.int .i64 ((rd_T48 b0 b1).f0))) (fun _ hk=>hk.2) (.int .i64 ((rd_T48 b0 b1).f1))) (fun _ hk=>hk.2) (.int .i64 ((rd_T48 b0 b1).f2.f0))) (fun _ hk=>hk.2) (.slice c0 ((rd_T48 b0 b1).f2.f1).length c1)) (fun _ hk=>hk.2) (.slice d0 ((rd_T48 b0 b1).f2.f2).length d2)) (fun _ hk=>hk.2) (.slice d3 ((rd_T48 b0 b1).f3).length d4)) (fun _ hk=>hk.2) (.slice d5 ((rd_T48 b0 b1).f4).length d7))) (fun k_ hk=>⟨hk.1.1.1,⟨hk.1.1.2.1,⟨hk.1.1.2.2,hk.1.2⟩⟩⟩))).2.1 (Kd.V_F (Kd.V_mono (ok':=(fun k_=>((d8 k_∨d9 k_)∨w.heap.size≤k_)∧some k_≠(.slice (some e7) b3.length e3:Value).ownBlock∧k_≠b5∧k_≠b2)) ((Kd.V_far (p:=⟨b2,6,none⟩) (Kd.V_far (p:=⟨b2,5,none⟩) (Kd.V_far (p:=⟨b2,4,none⟩) (Kd.V_far (p:=⟨b2,3,none⟩) (Kd.V_far (p:=⟨b2,2,none⟩) (Kd.V_far (p:=⟨b2,1,none⟩) (Kd.V_far (p:=⟨b2,0,none⟩) (Kd.V_mono h0.out (fun k_ hk=>(⟨hk,hk.2⟩:_∧k_≠b2))) (fun _ hk=>hk.2) (.int .i64 ((rd_T48 b0 b1).f0))) (fun _ hk=>hk.2) (.int .i64 ((rd_T48 b0 b1).f1))) (fun _ hk=>hk.2) (.int .i64 ((rd_T48 b0 b1).f2.f0))) (fun _ hk=>hk.2) (.slice c0 ((rd_T48 b0 b1).f2.f1).length c1)) (fun _ hk=>hk.2) (.slice d0 ((rd_T48 b0 b1).f2.f2).length d2)) (fun _ hk=>hk.2) (.slice d3 ((rd_T48 b0 b1).f3).length d4)) (fun _ hk=>hk.2) (.slice d5 ((rd_T48 b0 b1).f4).length d7))) (fun k_ hk=>⟨hk.1.1.1,⟨hk.1.1.2.1,⟨hk.1.1.2.2,hk.1.2⟩⟩⟩))) (Kd.V_reads' (Kd.V_mono (ok':=(fun k_=>((d8 k_∨d9 k_)∨w.heap.size≤k_)∧some k_≠(.slice (some e7) b3.length e3:Value).ownBlock∧k_≠b5∧k_≠b2)) ((Kd.V_far (p:=⟨b2,6,none⟩) (Kd.V_far (p:=⟨b2,5,none⟩) (Kd.V_far (p:=⟨b2,4,none⟩) (Kd.V_far (p:=⟨b2,3,none⟩) (Kd.V_far (p:=⟨b2,2,none⟩) (Kd.V_far (p:=⟨b2,1,none⟩) (Kd.V_far (p:=⟨b2,0,none⟩) (Kd.V_mono h1.out (fun k_ hk=>(⟨hk,hk.2⟩:_∧k_≠b2))) (fun _ hk=>hk.2) (.int .i64 ((rd_T48 b0 b1).f0))) (fun _ hk=>hk.2) (.int .i64 ((rd_T48 b0 b1).f1))) (fun _ hk=>hk.2) (.int .i64 ((rd_T48 b0 b1).f2.f0))) (fun _ hk=>hk.2) (.slice c0 ((rd_T48 b0 b1).f2.f1).length c1)) (fun _ hk=>hk.2) (.slice d0 ((rd_T48 b0 b1).f2.f2).length d2)) (fun _ hk=>hk.2) (.slice d3 ((rd_T48 b0 b1).f3).length d4)) (fun _ hk=>hk.2) (.slice d5 ((rd_T48 b0 b1).f4).length d7))) (fun k_ hk=>⟨hk.1.1.1,⟨hk.1.1.2.1,⟨hk.1.1.2.2,hk.1.2⟩⟩⟩))).2.1 (Kd.V_F (Kd.V_mono (ok':=(fun k_=>((d8 k_∨d9 k_)∨w.heap.size≤k_)∧some k_≠(.slice (some e7) b3.length e3:Value).ownBlock∧k_≠b5∧k_≠b2)) ((Kd.V_far (p:=⟨b2,6,none⟩) (Kd.V_far (p:=⟨b2,5,none⟩) (Kd.V_far (p:=⟨b2,4,none⟩) (Kd.V_far (p:=⟨b2,3,none⟩) (Kd.V_far (p:=⟨b2,2,none⟩) (Kd.V_far (p:=⟨b2,1,none⟩) (Kd.V_far (p:=⟨b2,0,none⟩) (Kd.V_mono h1.out (fun k_ hk=>(⟨hk,hk.2⟩:_∧k_≠b2))) (fun _ hk=>hk.2) (.int .i64 ((rd_T48 b0 b1).f0))) (fun _ hk=>hk.2) (.int .i64 ((rd_T48 b0 b1).f1))) (fun _ hk=>hk.2) (.int .i64 ((rd_T48 b0 b1).f2.f0))) (fun _ hk=>hk.2) (.slice c0 ((rd_T48 b0 b1).f2.f1).length c1)) (fun _ hk=>hk.2) (.slice d0 ((rd_T48 b0 b1).f2.f2).length d2)) (fun _ hk=>hk.2) (.slice d3 ((rd_T48 b0 b1).f3).length d4)) (fun _ hk=>hk.2) (.slice d5 ((rd_T48 b0 b1).f4).length d7))) (fun k_ hk=>⟨hk.1.1.1,⟨hk.1.1.2.1,⟨hk.1.1.2.2,hk.1.2⟩⟩⟩))))) (Reps.none _ _)));intro P6 P7 h8 hb hg_ hnew_;clear hg_ hnew_;(first|rw [← I2.out] at h8|(simp only [Int.reduceToNat] at h8;rw [← I2.out] at h8));refine ap17 (Kd.V_elder' (by (with_reducible repeat (first|apply Kd.V_alloc|apply Kd.V_drewN|apply Kd.V_drew));exact (Kd.V_mono (Kd.V_far (p:=⟨b2,6,none⟩) (Kd.V_far (p:=⟨b2,5,none⟩) (Kd.V_far (p:=⟨b2,4,none⟩) (Kd.V_far (p:=⟨b2,3,none⟩) (Kd.V_far (p:=⟨b2,2,none⟩) (Kd.V_far (p:=⟨b2,1,none⟩) (Kd.V_far (p:=⟨b2,0,none⟩) (Kd.V_mono d1.out (fun k_ hk=>(⟨hk,hk.2⟩:_∧k_≠b2))) (fun _ hk=>hk.2) (.int .i64 ((rd_T48 b0 b1).f0))) (fun _ hk=>hk.2) (.int .i64 ((rd_T48 b0 b1).f1))) (fun _ hk=>hk.2) (.int .i64 ((rd_T48 b0 b1).f2.f0))) (fun _ hk=>hk.2) (.slice c0 ((rd_T48 b0 b1).f2.f1).length c1)) (fun _ hk=>hk.2) (.slice d0 ((rd_T48 b0 b1).f2.f2).length d2)) (fun _ hk=>hk.2) (.slice d3 ((rd_T48 b0 b1).f3).length d4)) (fun _ hk=>hk.2) (.slice d5 ((rd_T48 b0 b1).f4).length d7)) (fun _ h_=>h_.1))) (Kd.N_base h8) hb) (Kd.R_below (by (with_reducible repeat (first|apply Kd.R_alloc|apply Kd.R_drewN|apply Kd.R_drew));exact (Kd.R_mono (Kd.R_far (p:=⟨b2,6,none⟩) (Kd.R_far (p:=⟨b2,5,none⟩) (Kd.R_far (p:=⟨b2,4,none⟩) (Kd.R_far (p:=⟨b2,3,none⟩) (Kd.R_far (p:=⟨b2,2,none⟩) (Kd.R_far (p:=⟨b2,1,none⟩) (Kd.R_far (p:=⟨b2,0,none⟩) (Kd.R_types b8.out b6.out (by decide)) (fun _ hk=>hk.2) (.int .i64 ((rd_T48 b0 b1).f0))) (fun _ hk=>hk.2) (.int .i64 ((rd_T48 b0 b1).f1))) (fun _ hk=>hk.2) (.int .i64 ((rd_T48 b0 b1).f2.f0))) (fun _ hk=>hk.2) (.slice c0 ((rd_T48 b0 b1).f2.f1).length c1)) (fun _ hk=>hk.2) (.slice d0 ((rd_T48 b0 b1).f2.f2).length d2)) (fun _ hk=>hk.2) (.slice d3 ((rd_T48 b0 b1).f3).length d4)) (fun _ hk=>hk.2) (.slice d5 ((rd_T48 b0 b1).f4).length d7)) (fun _ h_=>h_.1))) hb) (Kd.V_elder' (by (with_reducible repeat (first|apply Kd.V_alloc|apply Kd.V_drewN|apply Kd.V_drew));exact (Kd.V_mono (Kd.V_far (p:=⟨b2,6,none⟩) (Kd.V_far (p:=⟨b2,5,none⟩) (Kd.V_far (p:=⟨b2,4,none⟩) (Kd.V_far (p:=⟨b2,3,none⟩) (Kd.V_far (p:=⟨b2,2,none⟩) (Kd.V_far (p:=⟨b2,1,none⟩) (Kd.V_far (p:=⟨b2,0,none⟩) (Kd.V_mono e8.out (fun k_ hk=>(⟨hk,hk.2⟩:_∧k_≠b2))) (fun _ hk=>hk.2) (.int .i64 ((rd_T48 b0 b1).f0))) (fun _ hk=>hk.2) (.int .i64 ((rd_T48 b0 b1).f1))) (fun _ hk=>hk.2) (.int .i64 ((rd_T48 b0 b1).f2.f0))) (fun _ hk=>hk.2) (.slice c0 ((rd_T48 b0 b1).f2.f1).length c1)) (fun _ hk=>hk.2) (.slice d0 ((rd_T48 b0 b1).f2.f2).length d2)) (fun _ hk=>hk.2) (.slice d3 ((rd_T48 b0 b1).f3).length d4)) (fun _ hk=>hk.2) (.slice d5 ((rd_T48 b0 b1).f4).length d7)) (fun _ h_=>h_.1))) (Kd.N_base h8) hb) (Kd.V_elder' (by (with_reducible repeat (first|apply Kd.V_alloc|apply Kd.V_drewN|apply Kd.V_drew));exact (Kd.V_mono (Kd.V_far (p:=⟨b2,6,none⟩) (Kd.V_far (p:=⟨b2,5,none⟩) (Kd.V_far (p:=⟨b2,4,none⟩) (Kd.V_far (p:=⟨b2,3,none⟩) (Kd.V_far (p:=⟨b2,2,none⟩) (Kd.V_far (p:=⟨b2,1,none⟩) (Kd.V_far (p:=⟨b2,0,none⟩) (Kd.V_mono e0.out (fun k_ hk=>(⟨hk,hk.2⟩:_∧k_≠b2))) (fun _ hk=>hk.2) (.int .i64 ((rd_T48 b0 b1).f0))) (fun _ hk=>hk.2) (.int .i64 ((rd_T48 b0 b1).f1))) (fun _ hk=>hk.2) (.int .i64 ((rd_T48 b0 b1).f2.f0))) (fun _ hk=>hk.2) (.slice c0 ((rd_T48 b0 b1).f2.f1).length c1)) (fun _ hk=>hk.2) (.slice d0 ((rd_T48 b0 b1).f2.f2).length d2)) (fun _ hk=>hk.2) (.slice d3 ((rd_T48 b0 b1).f3).length d4)) (fun _ hk=>hk.2) (.slice d5 ((rd_T48 b0 b1).f4).length d7)) (fun _ h_=>h_.1))) (Kd.N_base h8) hb) (Kd.V_elder' (by (with_reducible repeat (first|apply Kd.V_alloc|apply Kd.V_drewN|apply Kd.V_drew));exact (Kd.V_mono (Kd.V_far (p:=⟨b2,6,none⟩) (Kd.V_far (p:=⟨b2,5,none⟩) (Kd.V_far (p:=⟨b2,4,none⟩) (Kd.V_far (p:=⟨b2,3,none⟩) (Kd.V_far (p:=⟨b2,2,none⟩) (Kd.V_far (p:=⟨b2,1,none⟩) (Kd.V_far (p:=⟨b2,0,none⟩) (Kd.V_mono d6.out (fun k_ hk=>(⟨hk,hk.2⟩:_∧k_≠b2))) (fun _ hk=>hk.2) (.int .i64 ((rd_T48 b0 b1).f0))) (fun _ hk=>hk.2) (.int .i64 ((rd_T48 b0 b1).f1))) (fun _ hk=>hk.2) (.int .i64 ((rd_T48 b0 b1).f2.f0))) (fun _ hk=>hk.2) (.slice c0 ((rd_T48 b0 b1).f2.f1).length c1)) (fun _ hk=>hk.2) (.slice d0 ((rd_T48 b0 b1).f2.f2).length d2)) (fun _ hk=>hk.2) (.slice d3 ((rd_T48 b0 b1).f3).length d4)) (fun _ hk=>hk.2) (.slice d5 ((rd_T48 b0 b1).f4).length d7)) (fun _ h_=>h_.1))) (Kd.N_base h8) hb) (Kd.V_elder' (by (with_reducible repeat (first|apply Kd.V_alloc|apply Kd.V_drewN|apply Kd.V_drew));exact (Kd.V_mono (Kd.V_far (p:=⟨b2,6,none⟩) (Kd.V_far (p:=⟨b2,5,none⟩) (Kd.V_far (p:=⟨b2,4,none⟩) (Kd.V_far (p:=⟨b2,3,none⟩) (Kd.V_far (p:=⟨b2,2,none⟩) (Kd.V_far (p:=⟨b2,1,none⟩) (Kd.V_far (p:=⟨b2,0,none⟩) (Kd.V_mono g8.out (fun k_ hk=>(⟨hk,hk.2⟩:_∧k_≠b2))) (fun _ hk=>hk.2) (.int .i64 ((rd_T48 b0 b1).f0))) (fun _ hk=>hk.2) (.int .i64 ((rd_T48 b0 b1).f1))) (fun _ hk=>hk.2) (.int .i64 ((rd_T48 b0 b1).f2.f0))) (fun _ hk=>hk.2) (.slice c0 ((rd_T48 b0 b1).f2.f1).length c1)) (fun _ hk=>hk.2) (.slice d0 ((rd_T48 b0 b1).f2.f2).length d2)) (fun _ hk=>hk.2) (.slice d3 ((rd_T48 b0 b1).f3).length d4)) (fun _ hk=>hk.2) (.slice d5 ((rd_T48 b0 b1).f4).length d7)) (fun _ h_=>h_.1))) (Kd.N_base h8) hb) (Kd.V_elder' (by (with_reducible repeat (first|apply Kd.V_alloc|apply Kd.V_drewN|apply Kd.V_drew));exact (Kd.V_mono (Kd.V_far (p:=⟨b2,6,none⟩) (Kd.V_far (p:=⟨b2,5,none⟩) (Kd.V_far (p:=⟨b2,4,none⟩) (Kd.V_far (p:=⟨b2,3,none⟩) (Kd.V_far (p:=⟨b2,2,none⟩) (Kd.V_far (p:=⟨b2,1,none⟩) (Kd.V_far (p:=⟨b2,0,none⟩) (Kd.V_mono g9.out (fun k_ hk=>(⟨hk,hk.2⟩:_∧k_≠b2))) (fun _ hk=>hk.2) (.int .i64 ((rd_T48 b0 b1).f0))) (fun _ hk=>hk.2) (.int .i64 ((rd_T48 b0 b1).f1))) (fun _ hk=>hk.2) (.int .i64 ((rd_T48 b0 b1).f2.f0))) (fun _ hk=>hk.2) (.slice c0 ((rd_T48 b0 b1).f2.f1).length c1)) (fun _ hk=>hk.2) (.slice d0 ((rd_T48 b0 b1).f2.f2).length d2)) (fun _ hk=>hk.2) (.slice d3 ((rd_T48 b0 b1).f3).length d4)) (fun _ hk=>hk.2) (.slice d5 ((rd_T48 b0 b1).f4).length d7)) (fun _ h_=>h_.1))) (Kd.N_base h8) hb) (Kd.V_elder' (by (with_reducible repeat (first|apply Kd.V_alloc|apply Kd.V_drewN|apply Kd.V_drew));exact (Kd.V_mono (Kd.V_far (p:=⟨b2,6,none⟩) (Kd.V_far (p:=⟨b2,5,none⟩) (Kd.V_far (p:=⟨b2,4,none⟩) (Kd.V_far (p:=⟨b2,3,none⟩) (Kd.V_far (p:=⟨b2,2,none⟩) (Kd.V_far (p:=⟨b2,1,none⟩) (Kd.V_far (p:=⟨b2,0,none⟩) (Kd.V_mono h0.out (fun k_ hk=>(⟨hk,hk.2⟩:_∧k_≠b2))) (fun _ hk=>hk.2) (.int .i64 ((rd_T48 b0 b1).f0))) (fun _ hk=>hk.2) (.int .i64 ((rd_T48 b0 b1).f1))) (fun _ hk=>hk.2) (.int .i64 ((rd_T48 b0 b1).f2.f0))) (fun _ hk=>hk.2) (.slice c0 ((rd_T48 b0 b1).f2.f1).length c1)) (fun _ hk=>hk.2) (.slice d0 ((rd_T48 b0 b1).f2.f2).length d2)) (fun _ hk=>hk.2) (.slice d3 ((rd_T48 b0 b1).f3).length d4)) (fun _ hk=>hk.2) (.slice d5 ((rd_T48 b0 b1).f4).length d7)) (fun _ h_=>h_.1))) (Kd.N_base h8) hb) (Kd.V_elder' (by (with_reducible repeat (first|apply Kd.V_alloc|apply Kd.V_drewN|apply Kd.V_drew));exact (Kd.V_mono (Kd.V_far (p:=⟨b2,6,none⟩) (Kd.V_far (p:=⟨b2,5,none⟩) (Kd.V_far (p:=⟨b2,4,none⟩) (Kd.V_far (p:=⟨b2,3,none⟩) (Kd.V_far (p:=⟨b2,2,none⟩) (Kd.V_far (p:=⟨b2,1,none⟩) (Kd.V_far (p:=⟨b2,0,none⟩) (Kd.V_mono h1.out (fun k_ hk=>(⟨hk,hk.2⟩:_∧k_≠b2))) (fun _ hk=>hk.2) (.int .i64 ((rd_T48 b0 b1).f0))) (fun _ hk=>hk.2) (.int .i64 ((rd_T48 b0 b1).f1))) (fun _ hk=>hk.2) (.int .i64 ((rd_T48 b0 b1).f2.f0))) (fun _ hk=>hk.2) (.slice c0 ((rd_T48 b0 b1).f2.f1).length c1)) (fun _ hk=>hk.2) (.slice d0 ((rd_T48 b0 b1).f2.f2).length d2)) (fun _ hk=>hk.2) (.slice d3 ((rd_T48 b0 b1).f3).length d4)) (fun _ hk=>hk.2) (.slice d5 ((rd_T48 b0 b1).f4).length d7)) (fun _ h_=>h_.1))) (Kd.N_base h8) hb) (Kd.N_lower h8 (below_size (belowP HB))) (blk_below (g:=b5) (o:=.cells #[.int .i64 e2,.int .i64 f8,.int .i64 f9,.int .i64 g3,.int .i64 g0,.slice l6 e4.length l7,.slice l8 e5.length l9,.string e6,.slice i1 b9.length i2,.slice m2 g1.length m3,.slice m4 g2.length m5,.slice (some q1) b0.length h4] 33 (0,0)) (by refine blkQ ?_;refine blk_far ?_ g5.out _;refine blkQ ?_;refine blk_far ?_ g5.out _;refine blkQ ?_;refine blk_far ?_ g5.out _;refine blkQ ?_;refine blk_far ?_ g5.out _;refine blkQ ?_;refine blk_far ?_ g5.out _;refine blkQ ?_;refine blk_far ?_ g5.out _;refine blkQ ?_;refine blk_far ?_ g5.out _;refine blkQ ?_;exact b4.out) hb) (Kd.C_below ((Kd.V_reads' (by (with_reducible repeat (first|apply Kd.V_alloc|apply Kd.V_drewN|apply Kd.V_drew));exact (Kd.V_mono (Kd.V_far (p:=⟨b2,6,none⟩) (Kd.V_far (p:=⟨b2,5,none⟩) (Kd.V_far (p:=⟨b2,4,none⟩) (Kd.V_far (p:=⟨b2,3,none⟩) (Kd.V_far (p:=⟨b2,2,none⟩) (Kd.V_far (p:=⟨b2,1,none⟩) (Kd.V_far (p:=⟨b2,0,none⟩) (Kd.V_mono g8.out (fun k_ hk=>(⟨hk,hk.2⟩:_∧k_≠b2))) (fun _ hk=>hk.2) (.int .i64 ((rd_T48 b0 b1).f0))) (fun _ hk=>hk.2) (.int .i64 ((rd_T48 b0 b1).f1))) (fun _ hk=>hk.2) (.int .i64 ((rd_T48 b0 b1).f2.f0))) (fun _ hk=>hk.2) (.slice c0 ((rd_T48 b0 b1).f2.f1).length c1)) (fun _ hk=>hk.2) (.slice d0 ((rd_T48 b0 b1).f2.f2).length d2)) (fun _ hk=>hk.2) (.slice d3 ((rd_T48 b0 b1).f3).length d4)) (fun _ hk=>hk.2) (.slice d5 ((rd_T48 b0 b1).f4).length d7)) (fun _ h_=>h_.1)))).2.2) hb) (Kd.C_below ((Kd.V_reads' (by (with_reducible repeat (first|apply Kd.V_alloc|apply Kd.V_drewN|apply Kd.V_drew));exact (Kd.V_mono (Kd.V_far (p:=⟨b2,6,none⟩) (Kd.V_far (p:=⟨b2,5,none⟩) (Kd.V_far (p:=⟨b2,4,none⟩) (Kd.V_far (p:=⟨b2,3,none⟩) (Kd.V_far (p:=⟨b2,2,none⟩) (Kd.V_far (p:=⟨b2,1,none⟩) (Kd.V_far (p:=⟨b2,0,none⟩) (Kd.V_mono g9.out (fun k_ hk=>(⟨hk,hk.2⟩:_∧k_≠b2))) (fun _ hk=>hk.2) (.int .i64 ((rd_T48 b0 b1).f0))) (fun _ hk=>hk.2) (.int .i64 ((rd_T48 b0 b1).f1))) (fun _ hk=>hk.2) (.int .i64 ((rd_T48 b0 b1).f2.f0))) (fun _ hk=>hk.2) (.slice c0 ((rd_T48 b0 b1).f2.f1).length c1)) (fun _ hk=>hk.2) (.slice d0 ((rd_T48 b0 b1).f2.f2).length d2)) (fun _ hk=>hk.2) (.slice d3 ((rd_T48 b0 b1).f3).length d4)) (fun _ hk=>hk.2) (.slice d5 ((rd_T48 b0 b1).f4).length d7)) (fun _ h_=>h_.1)))).2.2) hb) (Kd.C_below ((Kd.V_reads' (by (with_reducible repeat (first|apply Kd.V_alloc|apply Kd.V_drewN|apply Kd.V_drew));exact (Kd.V_mono (Kd.V_far (p:=⟨b2,6,none⟩) (Kd.V_far (p:=⟨b2,5,none⟩) (Kd.V_far (p:=⟨b2,4,none⟩) (Kd.V_far (p:=⟨b2,3,none⟩) (Kd.V_far (p:=⟨b2,2,none⟩) (Kd.V_far (p:=⟨b2,1,none⟩) (Kd.V_far (p:=⟨b2,0,none⟩) (Kd.V_mono h0.out (fun k_ hk=>(⟨hk,hk.2⟩:_∧k_≠b2))) (fun _ hk=>hk.2) (.int .i64 ((rd_T48 b0 b1).f0))) (fun _ hk=>hk.2) (.int .i64 ((rd_T48 b0 b1).f1))) (fun _ hk=>hk.2) (.int .i64 ((rd_T48 b0 b1).f2.f0))) (fun _ hk=>hk.2) (.slice c0 ((rd_T48 b0 b1).f2.f1).length c1)) (fun _ hk=>hk.2) (.slice d0 ((rd_T48 b0 b1).f2.f2).length d2)) (fun _ hk=>hk.2) (.slice d3 ((rd_T48 b0 b1).f3).length d4)) (fun _ hk=>hk.2) (.slice d5 ((rd_T48 b0 b1).f4).length d7)) (fun _ h_=>h_.1)))).2.2) hb) (Kd.C_below ((Kd.V_reads' (by (with_reducible repeat (first|apply Kd.V_alloc|apply Kd.V_drewN|apply Kd.V_drew));exact (Kd.V_mono (Kd.V_far (p:=⟨b2,6,none⟩) (Kd.V_far (p:=⟨b2,5,none⟩) (Kd.V_far (p:=⟨b2,4,none⟩) (Kd.V_far (p:=⟨b2,3,none⟩) (Kd.V_far (p:=⟨b2,2,none⟩) (Kd.V_far (p:=⟨b2,1,none⟩) (Kd.V_far (p:=⟨b2,0,none⟩) (Kd.V_mono h1.out (fun k_ hk=>(⟨hk,hk.2⟩:_∧k_≠b2))) (fun _ hk=>hk.2) (.int .i64 ((rd_T48 b0 b1).f0))) (fun _ hk=>hk.2) (.int .i64 ((rd_T48 b0 b1).f1))) (fun _ hk=>hk.2) (.int .i64 ((rd_T48 b0 b1).f2.f0))) (fun _ hk=>hk.2) (.slice c0 ((rd_T48 b0 b1).f2.f1).length c1)) (fun _ hk=>hk.2) (.slice d0 ((rd_T48 b0 b1).f2.f2).length d2)) (fun _ hk=>hk.2) (.slice d3 ((rd_T48 b0 b1).f3).length d4)) (fun _ hk=>hk.2) (.slice d5 ((rd_T48 b0 b1).f4).length d7)) (fun _ h_=>h_.1)))).2.2) hb) (blk_below (g:=b2) (o:=.cells #[.int .i64 ((rd_T48 b0 b1).f0),.int .i64 ((rd_T48 b0 b1).f1),.int .i64 ((rd_T48 b0 b1).f2.f0),.slice c0 ((rd_T48 b0 b1).f2.f1).length c1,.slice d0 ((rd_T48 b0 b1).f2.f2).length d2,.slice d3 ((rd_T48 b0 b1).f3).length d4,.slice d5 ((rd_T48 b0 b1).f4).length d7] 48 (0,0)) (by refine blkQ ?_;refine blk_put (cs:=#[.int .i64 ((rd_T48 b0 b1).f0),.int .i64 ((rd_T48 b0 b1).f1),.int .i64 ((rd_T48 b0 b1).f2.f0),.slice c0 ((rd_T48 b0 b1).f2.f1).length c1,.slice d0 ((rd_T48 b0 b1).f2.f2).length d2,.slice d3 ((rd_T48 b0 b1).f3).length d4,.slice none 0 0]) ?_ 6 _ rfl;refine blkQ ?_;refine blk_put (cs:=#[.int .i64 ((rd_T48 b0 b1).f0),.int .i64 ((rd_T48 b0 b1).f1),.int .i64 ((rd_T48 b0 b1).f2.f0),.slice c0 ((rd_T48 b0 b1).f2.f1).length c1,.slice d0 ((rd_T48 b0 b1).f2.f2).length d2,.slice none 0 0,.slice none 0 0]) ?_ 5 _ rfl;refine blkQ ?_;refine blk_put (cs:=#[.int .i64 ((rd_T48 b0 b1).f0),.int .i64 ((rd_T48 b0 b1).f1),.int .i64 ((rd_T48 b0 b1).f2.f0),.slice c0 ((rd_T48 b0 b1).f2.f1).length c1,.slice none 0 0,.slice none 0 0,.slice none 0 0]) ?_ 4 _ rfl;refine blkQ ?_;refine blk_put (cs:=#[.int .i64 ((rd_T48 b0 b1).f0),.int .i64 ((rd_T48 b0 b1).f1),.int .i64 ((rd_T48 b0 b1).f2.f0),.slice none 0 0,.slice none 0 0,.slice none 0 0,.slice none 0 0]) ?_ 3 _ rfl;refine blkQ ?_;refine blk_put (cs:=#[.int .i64 ((rd_T48 b0 b1).f0),.int .i64 ((rd_T48 b0 b1).f1),.int .i64 0,.slice none 0 0,.slice none 0 0,.slice none 0 0,.slice none 0 0]) ?_ 2 _ rfl;refine blkQ ?_;refine blk_put (cs:=#[.int .i64 ((rd_T48 b0 b1).f0),.int .i64 0,.int .i64 0,.slice none 0 0,.slice none 0 0,.slice none 0 0,.slice none 0 0]) ?_ 1 _ rfl;refine blkQ ?_;refine blk_put (cs:=#[.int .i64 0,.int .i64 0,.int .i64 0,.slice none 0 0,.slice none 0 0,.slice none 0 0,.slice none 0 0]) ?_ 0 _ rfl;refine blkQ ?_;exact b6.out) hb) (below_step (belowP HB) hb) ?_;clear d1 b8 e8 e0 d6 g8 g9 h0 h1 b4 e9 f5 f6 f7 b6 HB;intro d1 b8 e8 e0 d6 g8 g9 h0 h1 o8 b4 e9 f5 f6 f7 b6 HB;clear hb h8;obtain ⟨N5,N6,N7⟩:=Kd.N_slice o8.out;subst N7)|((with_reducible refine gate_callee (f:=40) rfl ?_);refine goesL_ (some 57) rfl rfl Try.func40 (by kernel_rfl) rfl #[.slice N5 w0.length N6] rfl tz0 ?_;(with_reducible refine (nomination_all.calls k2 _ _ w0 e1 _ ?side1 ?side2 K7.out).mono ?_);(case side1=>exact Kd.C_q ((Kd.N_reads' o8.out).2.2));(case side2=>exact (Kd.N_reads' o8.out).2.1);rintro e P8 ⟨P9,rfl,g4,hb⟩;refine ⟨_,rfl,?_⟩;refine ap18 (Kd.V_elder' (by (with_reducible repeat (first|apply Kd.V_alloc|apply Kd.V_drewN|apply Kd.V_drew));exact d1.out) (Kd.R_base g4) hb) (Kd.R_below (by (with_reducible repeat (first|apply Kd.R_alloc|apply Kd.R_drewN|apply Kd.R_drew));exact b8.out) hb) (Kd.V_elder' (by (with_reducible repeat (first|apply Kd.V_alloc|apply Kd.V_drewN|apply Kd.V_drew));exact e8.out) (Kd.R_base g4) hb) (Kd.V_elder' (by (with_reducible repeat (first|apply Kd.V_alloc|apply Kd.V_drewN|apply Kd.V_drew));exact e0.out) (Kd.R_base g4) hb) (Kd.V_elder' (by (with_reducible repeat (first|apply Kd.V_alloc|apply Kd.V_drewN|apply Kd.V_drew));exact d6.out) (Kd.R_base g4) hb) (Kd.V_elder' (by (with_reducible repeat (first|apply Kd.V_alloc|apply Kd.V_drewN|apply Kd.V_drew));exact g8.out) (Kd.R_base g4) hb) (Kd.V_elder' (by (with_reducible repeat (first|apply Kd.V_alloc|apply Kd.V_drewN|apply Kd.V_drew));exact g9.out) (Kd.R_base g4) hb) (Kd.V_elder' (by (with_reducible repeat (first|apply Kd.V_alloc|apply Kd.V_drewN|apply Kd.V_drew));exact h0.out) (Kd.R_base g4) hb) (Kd.V_elder' (by (with_reducible repeat (first|apply Kd.V_alloc|apply Kd.V_drewN|apply Kd.V_drew));exact h1.out) (Kd.R_base g4) hb) (Kd.N_elder' (by (with_reducible repeat (first|apply Kd.N_alloc|apply Kd.N_drewN|apply Kd.N_drew));exact o8.out) (Kd.R_base g4) hb) (Kd.R_lower (Kd.R_newM (M:=fun k_=>(w.heap.size≤k_)) g4 (below_size (belowP HB)) (fun k_ h_=>h_)) (below_size (belowP HB))) (blk_below (blkP b4) hb) (Kd.C_below (by repeat (first|(with_reducible exact e9.out)|(with_reducible refine Kd.C_alloc ?_ _)|(with_reducible refine Kd.C_drewN ?_ _)|(with_reducible refine Kd.C_drew ?_)|exact e9.out)) hb) (Kd.C_below (by repeat (first|(with_reducible exact f5.out)|(with_reducible refine Kd.C_alloc ?_ _)|(with_reducible refine Kd.C_drewN ?_ _)|(with_reducible refine Kd.C_drew ?_)|exact f5.out)) hb) (Kd.C_below (by repeat (first|(with_reducible exact f6.out)|(with_reducible refine Kd.C_alloc ?_ _)|(with_reducible refine Kd.C_drewN ?_ _)|(with_reducible refine Kd.C_drew ?_)|exact f6.out)) hb) (Kd.C_below (by repeat (first|(with_reducible exact f7.out)|(with_reducible refine Kd.C_alloc ?_ _)|(with_reducible refine Kd.C_drewN ?_ _)|(with_reducible refine Kd.C_drew ?_)|exact f7.out)) hb) (blk_below (blkP b6) hb) (below_step (belowP HB) hb) ?_;clear d1 b8 e8 e0 d6 g8 g9 h0 h1 o8 b4 e9 f5 f6 f7 b6 HB;intro d1 b8 e8 e0 d6 g8 g9 h0 h1 o8 I7 b4 e9 f5 f6 f7 b6 HB;obtain ⟨r1,o4,N8⟩:=Kd.R_slice I7.out;subst N8))
             go_loopg [3,59] k2 (fun kq v3 N9 w'=>∃ (o9:List ByteArray) (g6:Int),N9 = .int .i64 g6∧Aside0 (nomination_voted.l2 kq o9 (rd b3 b7) b3 (b3.length:Int) b7 b0 (b0.length:Int) b1 e1 (e1.length:Int) g6 e2 f8 f9 g3 g0 e4 e5 e6 b9 g1 g2 b0=some r)∧Aside0 (kq≤k2)∧Aside0 (Kd.V Kd.string 9 w' w.heap.size (fun k_=>((d8 k_∨d9 k_)∨w.heap.size≤k_)∧some k_≠((.slice (some e7) b3.length e3):Value).ownBlock∧some k_≠((.slice r1 e1.length o4):Value).ownBlock∧k_≠b5∧k_≠b2) v3 o9)∧Aside0 (Kd.R (Kd.int .i64) 3 w' w.heap.size (fun k_=>(w.heap.size≤k_)) (.slice (some e7) b3.length e3) b3)∧Aside0 (Kd.V k48 48 w' w.heap.size (fun k_=>((d8 k_∨d9 k_)∨w.heap.size≤k_)∧some k_≠((.slice (some e7) b3.length e3):Value).ownBlock∧some k_≠((.slice r1 e1.length o4):Value).ownBlock∧k_≠b5∧k_≠b2) (.slice (some q1) b0.length h4) b0)∧Aside0 (Kd.R Kd.string 9 w' w.heap.size (fun k_=>(w.heap.size≤k_)) (.slice r1 e1.length o4) e1)∧Aside0 (Kd.V Kd.string 9 w' w.heap.size (fun k_=>((d8 k_∨d9 k_)∨w.heap.size≤k_)∧some k_≠((.slice (some e7) b3.length e3):Value).ownBlock∧some k_≠((.slice r1 e1.length o4):Value).ownBlock∧k_≠b5∧k_≠b2) (.slice i1 b9.length i2) b9)∧Aside0 (Kd.V k48 48 w' w.heap.size (fun k_=>((d8 k_∨d9 k_)∨w.heap.size≤k_)∧some k_≠((.slice (some e7) b3.length e3):Value).ownBlock∧some k_≠((.slice r1 e1.length o4):Value).ownBlock∧k_≠b5∧k_≠b2) (.slice (some q1) b0.length h4) b0)∧Aside0 (w'.heap[b5]? = some (.cells #[.int .i64 e2,.int .i64 f8,.int .i64 f9,.int .i64 g3,.int .i64 g0,(.slice l6 e4.length l7),(.slice l8 e5.length l9),.string e6,(.slice i1 b9.length i2),(.slice m2 g1.length m3),(.slice m4 g2.length m5),(.slice (some q1) b0.length h4)] 33 (0,0)))∧Aside0 (w'.heap[b2]? = some (.cells #[.int .i64 ((rd_T48 b0 b1).f0),.int .i64 ((rd_T48 b0 b1).f1),.int .i64 ((rd_T48 b0 b1).f2.f0),(.slice c0 ((rd_T48 b0 b1).f2.f1).length c1),(.slice d0 ((rd_T48 b0 b1).f2.f2).length d2),(.slice d3 ((rd_T48 b0 b1).f3).length d4),(.slice d5 ((rd_T48 b0 b1).f4).length d7)] 48 (0,0)))∧Aside0 (Kd.C (Kd.int .i64) w' c0 ((rd_T48 b0 b1).f2.f1).length ((rd_T48 b0 b1).f2.f1))∧Aside0 (Kd.C k30 w' d0 ((rd_T48 b0 b1).f2.f2).length ((rd_T48 b0 b1).f2.f2))∧Aside0 (Kd.C Kd.string w' d3 ((rd_T48 b0 b1).f3).length ((rd_T48 b0 b1).f3))∧Aside0 (Kd.C Kd.string w' d5 ((rd_T48 b0 b1).f4).length ((rd_T48 b0 b1).f4))∧Aside0 (Below w.heap.size w w'))
             case atStart=>exact ⟨(m6),(0),tz3,H',⟨Nat.le_refl _⟩,⟨by (with_reducible repeat (first|apply Kd.V_alloc|apply Kd.V_drewN|apply Kd.V_drew));exact Kd.V_mono d1.out (fun _ hk=>⟨hk.1.1.1.1,⟨hk.1.1.1.2.1,⟨hk.2,⟨hk.1.1.1.2.2,hk.1.1.2⟩⟩⟩⟩)⟩,⟨by (with_reducible repeat (first|apply Kd.R_alloc|apply Kd.R_drewN|apply Kd.R_drew));exact b8.out⟩,⟨by (with_reducible repeat (first|apply Kd.V_alloc|apply Kd.V_drewN|apply Kd.V_drew));exact Kd.V_mono e8.out (fun _ hk=>⟨hk.1.1.1.1,⟨hk.1.1.1.2.1,⟨hk.2,⟨hk.1.1.1.2.2,hk.1.1.2⟩⟩⟩⟩)⟩,⟨by (with_reducible repeat (first|apply Kd.R_alloc|apply Kd.R_drewN|apply Kd.R_drew));exact Kd.R_mono I7.out (fun _ hk=>hk.1)⟩,⟨by (with_reducible repeat (first|apply Kd.V_alloc|apply Kd.V_drewN|apply Kd.V_drew));exact Kd.V_mono e0.out (fun _ hk=>⟨hk.1.1.1.1,⟨hk.1.1.1.2.1,⟨hk.2,⟨hk.1.1.1.2.2,hk.1.1.2⟩⟩⟩⟩)⟩,⟨by (with_reducible repeat (first|apply Kd.V_alloc|apply Kd.V_drewN|apply Kd.V_drew));exact Kd.V_mono d6.out (fun _ hk=>⟨hk.1.1.1.1,⟨hk.1.1.1.2.1,⟨hk.2,⟨hk.1.1.1.2.2,hk.1.1.2⟩⟩⟩⟩)⟩,⟨by refine blkQ ?_;exact b4.out⟩,⟨by refine blkQ ?_;exact b6.out⟩,⟨by repeat (first|(with_reducible exact e9.out)|(with_reducible refine Kd.C_alloc ?_ _)|(with_reducible refine Kd.C_drewN ?_ _)|(with_reducible refine Kd.C_drew ?_)|exact e9.out)⟩,⟨by repeat (first|(with_reducible exact f5.out)|(with_reducible refine Kd.C_alloc ?_ _)|(with_reducible refine Kd.C_drewN ?_ _)|(with_reducible refine Kd.C_drew ?_)|exact f5.out)⟩,⟨by repeat (first|(with_reducible exact f6.out)|(with_reducible refine Kd.C_alloc ?_ _)|(with_reducible refine Kd.C_drewN ?_ _)|(with_reducible refine Kd.C_drew ?_)|exact f6.out)⟩,⟨by repeat (first|(with_reducible exact f7.out)|(with_reducible refine Kd.C_alloc ?_ _)|(with_reducible refine Kd.C_drewN ?_ _)|(with_reducible refine Kd.C_drew ?_)|exact f7.out)⟩,⟨by repeat (first|(with_reducible first|exact HB.out|apply below_alloc|apply pw_below_drewN|apply below_drew1|refine below_set ?_ l3.out|refine below_set ?_ r0.out)|exact HB.out)⟩⟩
             case round=>
              clear H'
              try clear c7
              try clear c9
              try clear v5
              try clear c10
              try clear z4
              try clear o7
              try clear z5
              try clear m0
              try clear v6
              try clear v7
              try clear m1
              try clear v8
              try clear v9
              try clear n5
              try clear H9
              try clear p9
              try clear K5
              try clear q0
              try clear K6
              try clear m8
              try clear I0
              try clear I1
              try clear z6
              try clear z7
              try clear A8
              try clear A9
              try clear z8
              try clear z9
              try clear A0
              try clear A1
              try clear A4
              try clear A5
              try clear A6
              try clear A7
              try clear D1
              try clear D2
              try clear E1
              try clear E2
              try clear D3
              try clear D4
              try clear D5
              try clear D6
              try clear D7
              try clear D8
              try clear D9
              try clear E0
              try clear F5
              try clear F6
              try clear G5
              try clear G6
              try clear F7
              try clear F8
              try clear F9
              try clear G0
              try clear G1
              try clear G2
              try clear G3
              try clear G4
              try clear M1
              try clear M2
              try clear M3
              try clear M4
              try clear M5
              try clear M6
              try clear M7
              try clear s9
              try clear t0
              try clear t9
              try clear u0
              try clear t1
              try clear t2
              try clear t3
              try clear t4
              try clear t5
              try clear t6
              try clear t7
              try clear t8
              try clear B0
              try clear B2
              try clear C8
              try clear C9
              try clear C0
              try clear C1
              try clear C2
              try clear C3
              try clear C4
              try clear C5
              try clear C6
              try clear C7
              try clear E3
              try clear E4
              try clear F3
              try clear F4
              try clear E5
              try clear E6
              try clear E7
              try clear E8
              try clear E9
              try clear F0
              try clear F1
              try clear F2
              try clear G7
              try clear G8
              try clear H7
              try clear H8
              try clear G9
              try clear H0
              try clear H1
              try clear H2
              try clear H3
              try clear H4
              try clear H5
              try clear H6
              try clear M8
              try clear M9
              try clear N0
              try clear N1
              try clear N2
              try clear N3
              try clear N4
              try clear u1
              try clear u2
              try clear v2
              try clear v4
              try clear u3
              try clear u4
              try clear u5
              try clear u6
              try clear u7
              try clear u9
              try clear v0
              try clear v1
              try clear r4
              try clear I4
              try clear I5
              try clear I6
              try clear r5
              try clear r6
              try clear r7
              try clear r8
              try clear h6
              try clear l4
              try clear h7
              try clear l5
              try clear d1
              try clear b8
              try clear e8
              try clear e0
              try clear d6
              try clear b4
              try clear b6
              try clear e9
              try clear f5
              try clear f6
              try clear f7
              try clear HB
              obtain ⟨o9,g6,rfl,HA,r9,d1,b8,e8,p0,e0,d6,b4,b6,e9,f5,f6,f7,HB⟩:=hrel
              cases gk with
              | zero=>exact absurd HA.out (by simp [nomination_voted.l2])
              | succ k3=>
               have H:=HA.out
               clear HA
               simp only [nomination_voted.l2] at H
               by_cases p1:g6 < (e1.length:Int)
               ·rw [if_pos p1] at H
                have O0:decide (g6 < (e1.length:Int))=true:=decide_eq_true p1
                clear p1
                by_cases s0:0≤g6
                ·rw [if_pos s0] at H
                 have Q0:decide (0≤g6)=true:=decide_eq_true s0
                 clear s0
                 by_cases s1:g6 < (e1.length:Int)
                 ·rw [if_pos s1] at H
                  have Q1:decide (g6 < (e1.length:Int))=true:=decide_eq_true s1
                  clear s1
                  replace H:=Option.bind_eq_some_iff.mp H
                  obtain ⟨p4,I8,H⟩:=H
                  replace H:(nomination_voted.l2 k3 p4 (rd b3 b7) b3 (b3.length:Int) b7 b0 (b0.length:Int) b1 e1 (e1.length:Int) (wrap64 (g6 + 1)) e2 f8 f9 g3 g0 e4 e5 e6 b9 g1 g2 b0)=some r:=H
                  have O1:=Aside0.mk I8
                  clear I8
                  have H':=Aside0.mk H
                  clear H
                  have w5:0≤(g6:Int):=of_decide_eq_true tz2
                  have w8:g6 < (e1.length:Int):=of_decide_eq_true tz2
                  obtain ⟨I9,O2,Q2⟩:=Kd.at_string (Kd.R_reads' p0.out).2.2 g6 w5 w8
                  cases O2
                  replace w5:=eq_true w5
                  replace w8:=eq_true w8
                  obtain ⟨O3,O4,O5⟩:=Kd.V_slice d1.out
                  subst O5
                  go_wp2_with (first|((with_reducible refine gate_callee (f:=26) rfl ?_);refine goesL_ (some 65) rfl rfl Try.func26 (by kernel_rfl) rfl #[.slice O3 o9.length O4,.string (rdOf ByteArray.empty e1 g6)] rfl tz0 ?_;(with_reducible refine (nomination_put.calls k3 (fun k_=>(((d8 k_∨d9 k_)∨w.heap.size≤k_)∧(some k_≠(.slice (some e7) b3.length e3:Value).ownBlock∧(some k_≠(.slice (some I9) e1.length o4:Value).ownBlock∧(k_≠b5∧k_≠b2))))) _ _ o9 (rdOf ByteArray.empty e1 g6) p4 _ ?side1 O1.out).mono ?_);(case side1=>exact d1.out);rintro e Q3 ⟨Q4,rfl,g4,hb⟩;refine ⟨_,rfl,?_⟩;refine ap14 (Kd.V_below (by (with_reducible repeat (first|apply Kd.V_alloc|apply Kd.V_drewN|apply Kd.V_drew));exact d1.out) hb) (Kd.R_below (by (with_reducible repeat (first|apply Kd.R_alloc|apply Kd.R_drewN|apply Kd.R_drew));exact b8.out) hb) (Kd.V_below (by (with_reducible repeat (first|apply Kd.V_alloc|apply Kd.V_drewN|apply Kd.V_drew));exact e8.out) hb) (Kd.R_below (by (with_reducible repeat (first|apply Kd.R_alloc|apply Kd.R_drewN|apply Kd.R_drew));exact p0.out) hb) (Kd.V_below (by (with_reducible repeat (first|apply Kd.V_alloc|apply Kd.V_drewN|apply Kd.V_drew));exact e0.out) hb) (Kd.V_below (by (with_reducible repeat (first|apply Kd.V_alloc|apply Kd.V_drewN|apply Kd.V_drew));exact d6.out) hb) (Kd.V_lower (Kd.V_mono (ok':=fun k_=>((d8 k_∨d9 k_)∨w.heap.size≤k_)∧some k_≠(.slice (some e7) b3.length e3:Value).ownBlock∧some k_≠(.slice (some I9) e1.length o4:Value).ownBlock∧k_≠b5∧k_≠b2) g4 (fun k_ hk_=>⟨Or.elim hk_ (fun hs_=>hs_.1) (fun hn_=>(.inr (Nat.le_trans (below_size (belowP HB)) hn_))),Or.elim hk_ (fun hs_=>hs_.2.1) (fun hn_=>(Kd.fresh' (Kd.R_lt (by (with_reducible repeat (first|apply Kd.R_alloc|apply Kd.R_drewN|apply Kd.R_drew));exact b8.out)) k_ hn_)),Or.elim hk_ (fun hs_=>hs_.2.2.1) (fun hn_=>(Kd.fresh' (Kd.R_lt (by (with_reducible repeat (first|apply Kd.R_alloc|apply Kd.R_drewN|apply Kd.R_drew));exact p0.out)) k_ hn_)),Or.elim hk_ (fun hs_=>hs_.2.2.2.1) (fun hn_=>(Kd.freshB (blkP b4) k_ hn_)),Or.elim hk_ (fun hs_=>hs_.2.2.2.2) (fun hn_=>(Kd.freshB (blkP b6) k_ hn_))⟩)) (below_size (belowP HB))) (blk_below (blkP b4) hb) (blk_below (blkP b6) hb) (Kd.C_below (by repeat (first|(with_reducible exact e9.out)|(with_reducible refine Kd.C_alloc ?_ _)|(with_reducible refine Kd.C_drewN ?_ _)|(with_reducible refine Kd.C_drew ?_)|exact e9.out)) hb) (Kd.C_below (by repeat (first|(with_reducible exact f5.out)|(with_reducible refine Kd.C_alloc ?_ _)|(with_reducible refine Kd.C_drewN ?_ _)|(with_reducible refine Kd.C_drew ?_)|exact f5.out)) hb) (Kd.C_below (by repeat (first|(with_reducible exact f6.out)|(with_reducible refine Kd.C_alloc ?_ _)|(with_reducible refine Kd.C_drewN ?_ _)|(with_reducible refine Kd.C_drew ?_)|exact f6.out)) hb) (Kd.C_below (by repeat (first|(with_reducible exact f7.out)|(with_reducible refine Kd.C_alloc ?_ _)|(with_reducible refine Kd.C_drewN ?_ _)|(with_reducible refine Kd.C_drew ?_)|exact f7.out)) hb) (below_step (belowP HB) hb) ?_;clear d1 b8 e8 p0 e0 d6 b4 b6 e9 f5 f6 f7 HB;intro d1 b8 e8 p0 e0 d6 O6 b4 b6 e9 f5 f6 f7 HB))
                  go_roundg k3
                  case measure=>have:=i3.out;have:=m7.out;have:=r9.out;omega
                  case rel=>exact ⟨(p4),(wrap64 (g6 + 1)),tz3,H',⟨by have:=i3.out;have:=m7.out;have:=r9.out;omega⟩,⟨by (with_reducible repeat (first|apply Kd.V_alloc|apply Kd.V_drewN|apply Kd.V_drew));exact O6.out⟩,⟨by (with_reducible repeat (first|apply Kd.R_alloc|apply Kd.R_drewN|apply Kd.R_drew));exact b8.out⟩,⟨by (with_reducible repeat (first|apply Kd.V_alloc|apply Kd.V_drewN|apply Kd.V_drew));exact e8.out⟩,⟨by (with_reducible repeat (first|apply Kd.R_alloc|apply Kd.R_drewN|apply Kd.R_drew));exact p0.out⟩,⟨by (with_reducible repeat (first|apply Kd.V_alloc|apply Kd.V_drewN|apply Kd.V_drew));exact e0.out⟩,⟨by (with_reducible repeat (first|apply Kd.V_alloc|apply Kd.V_drewN|apply Kd.V_drew));exact d6.out⟩,⟨by refine blkQ ?_;exact b4.out⟩,⟨by refine blkQ ?_;exact b6.out⟩,⟨by repeat (first|(with_reducible exact e9.out)|(with_reducible refine Kd.C_alloc ?_ _)|(with_reducible refine Kd.C_drewN ?_ _)|(with_reducible refine Kd.C_drew ?_)|exact e9.out)⟩,⟨by repeat (first|(with_reducible exact f5.out)|(with_reducible refine Kd.C_alloc ?_ _)|(with_reducible refine Kd.C_drewN ?_ _)|(with_reducible refine Kd.C_drew ?_)|exact f5.out)⟩,⟨by repeat (first|(with_reducible exact f6.out)|(with_reducible refine Kd.C_alloc ?_ _)|(with_reducible refine Kd.C_drewN ?_ _)|(with_reducible refine Kd.C_drew ?_)|exact f6.out)⟩,⟨by repeat (first|(with_reducible exact f7.out)|(with_reducible refine Kd.C_alloc ?_ _)|(with_reducible refine Kd.C_drewN ?_ _)|(with_reducible refine Kd.C_drew ?_)|exact f7.out)⟩,⟨by repeat (first|(with_reducible first|exact HB.out|apply below_alloc|apply pw_below_drewN|apply below_drew1|refine below_set ?_ l3.out|refine below_set ?_ r0.out)|exact HB.out)⟩⟩
                 ·rw [if_neg s1] at H
                  exact absurd H (by simp)
                ·rw [if_neg s0] at H
                 exact absurd H (by simp)
               ·rw [if_neg p1] at H
                have O0:decide (g6 < (e1.length:Int))=false:=decide_eq_false p1
                clear p1
                have H':=Aside0.mk H
                clear H
                go_wp2
                go_roundg k3
                case measure=>have:=i3.out;have:=m7.out;have:=r9.out;omega
                case rel=>exact ⟨(o9),(wrap64 (b1 + 1)),tz3,H',⟨by have:=i3.out;have:=m7.out;have:=r9.out;omega⟩,⟨by (with_reducible repeat (first|apply Kd.V_alloc|apply Kd.V_drewN|apply Kd.V_drew));exact Kd.V_mono d1.out (fun _ hk=>⟨hk.1,⟨hk.2.1,hk.2.2.2.1⟩⟩)⟩,⟨by (with_reducible repeat (first|apply Kd.R_alloc|apply Kd.R_drewN|apply Kd.R_drew));exact b8.out⟩,⟨by (with_reducible repeat (first|apply Kd.V_alloc|apply Kd.V_drewN|apply Kd.V_drew));exact Kd.V_mono e8.out (fun _ hk=>⟨hk.1,⟨hk.2.1,hk.2.2.2.1⟩⟩)⟩,⟨by (with_reducible repeat (first|apply Kd.V_alloc|apply Kd.V_drewN|apply Kd.V_drew));exact Kd.V_mono e0.out (fun _ hk=>⟨hk.1,⟨hk.2.1,hk.2.2.2.1⟩⟩)⟩,⟨by (with_reducible repeat (first|apply Kd.V_alloc|apply Kd.V_drewN|apply Kd.V_drew));exact Kd.V_mono d6.out (fun _ hk=>⟨hk.1,⟨hk.2.1,hk.2.2.2.1⟩⟩)⟩,⟨by refine blkQ ?_;exact b4.out⟩,⟨by repeat (first|(with_reducible first|exact HB.out|apply below_alloc|apply pw_below_drewN|apply below_drew1|refine below_set ?_ l3.out|refine below_set ?_ r0.out)|exact HB.out)⟩⟩
            ·rw [if_neg m8] at H
             have I0:(((rd_T48 b0 b1).f0) == (rd b3 b7))=false:=beq_eq_false_iff_ne.mpr m8
             have I1:(((rd_T48 b0 b1).f0) != (rd b3 b7))=true:=bne_iff_ne.mpr m8
             have H':=Aside0.mk H
             clear H
             have l4:0≤(b1:Int):=of_decide_eq_true tz2
             have l5:b1 < (b0.length:Int):=of_decide_eq_true tz2
             obtain ⟨q1,c0,c1,d0,d2,d3,d4,d5,d7,w2,I4,I5,I6,r5,r6,r7,r8,q2,q3,q4,q5,q6,q7,q8,q9⟩:=at_T48 (Kd.V_reads' e8.out).2.2 b1 l4 l5
             cases w2
             obtain ⟨K8,hce292,hMe292,j5⟩:=Kd.V_get e8.out z48 b1 l4 (by first|exact l5|exact of_decide_eq_true tz2|(have e_:=(Kd.V_reads' e8.out).1;omega))
             obtain ⟨K9,L0,L1,L2,L3,L4,L5,L6,rfl,n6,n7,n8,n9,o0,o1,o2,o3⟩:=k48_openF hMe292
             have hv292_3:=j5 3 _ rfl
             rw [add_field _ _ 3 (by omega)] at hv292_3
             replace hv292_3:=Option.some.inj (hv292_3.symm.trans r5)
             injection hv292_3 with hva_ hvn_ hvc_
             rw [hva_] at n7
             rw [hvc_] at n6
             have g8:=Aside0.mk (show Kd.V (Kd.int .i64) 3 _ w.heap.size _ _ ((rd_T48 b0 b1).f2.f1) from Kd.V_mk n6 n7)
             clear hva_ hvn_ hvc_ n7 n6
             have hv292_4:=j5 4 _ rfl
             rw [add_field _ _ 4 (by omega)] at hv292_4
             replace hv292_4:=Option.some.inj (hv292_4.symm.trans r6)
             injection hv292_4 with hva_ hvn_ hvc_
             rw [hva_] at n9
             rw [hvc_] at n8
             have g9:=Aside0.mk (show Kd.V k30 30 _ w.heap.size _ _ ((rd_T48 b0 b1).f2.f2) from Kd.V_mk n8 n9)
             clear hva_ hvn_ hvc_ n9 n8
             have hv292_5:=j5 5 _ rfl
             rw [add_field _ _ 5 (by omega)] at hv292_5
             replace hv292_5:=Option.some.inj (hv292_5.symm.trans r7)
             injection hv292_5 with hva_ hvn_ hvc_
             rw [hva_] at o1
             rw [hvc_] at o0
             have h0:=Aside0.mk (show Kd.V Kd.string 9 _ w.heap.size _ _ ((rd_T48 b0 b1).f3) from Kd.V_mk o0 o1)
             clear hva_ hvn_ hvc_ o1 o0
             have hv292_6:=j5 6 _ rfl
             rw [add_field _ _ 6 (by omega)] at hv292_6
             replace hv292_6:=Option.some.inj (hv292_6.symm.trans r8)
             injection hv292_6 with hva_ hvn_ hvc_
             rw [hva_] at o3
             rw [hvc_] at o2
             have h1:=Aside0.mk (show Kd.V Kd.string 9 _ w.heap.size _ _ ((rd_T48 b0 b1).f4) from Kd.V_mk o2 o3)
             clear hva_ hvn_ hvc_ o3 o2 j5 hce292
             have e9:=Aside0.mk q3
             have L7:=Aside0.mk q2
             clear q3 q2
             have f5:=Aside0.mk q5
             have L8:=Aside0.mk q4
             clear q5 q4
             have f6:=Aside0.mk q7
             have L9:=Aside0.mk q6
             clear q7 q6
             have f7:=Aside0.mk q9
             have M0:=Aside0.mk q8
             clear q9 q8
             replace l4:=eq_true l4
             replace l5:=eq_true l5
             go_wp2_with (first|((with_reducible refine gate_dst (N:=9) rfl ?_);refine box_event ?hg (N:=9) ?hd (cs:=#[.int .i64 0,.int .i64 0,.int .i64 0,.slice none 0 0,.slice none 0 0,.slice none 0 0,.slice none 0 0]) (t:=48) ?hr ?_;(case hd=>rfl);(case hg=>rfl);(case hr=>first|(go_simp;done)|(go_simp;rfl));intro b2 hg o5 hbox hb;refine ap20 (Kd.V_below (Kd.V_elderB (by (with_reducible repeat (first|apply Kd.V_alloc|apply Kd.V_drewN|apply Kd.V_drew));exact d1.out) b2 (Nat.le_of_eq hg.symm)) hb) (Kd.R_below (by (with_reducible repeat (first|apply Kd.R_alloc|apply Kd.R_drewN|apply Kd.R_drew));exact b8.out) hb) (Kd.V_below (Kd.V_elderB (by (with_reducible repeat (first|apply Kd.V_alloc|apply Kd.V_drewN|apply Kd.V_drew));exact e8.out) b2 (Nat.le_of_eq hg.symm)) hb) (Kd.V_below (Kd.V_elderB (by (with_reducible repeat (first|apply Kd.V_alloc|apply Kd.V_drewN|apply Kd.V_drew));exact e0.out) b2 (Nat.le_of_eq hg.symm)) hb) (Kd.V_below (Kd.V_elderB (by (with_reducible repeat (first|apply Kd.V_alloc|apply Kd.V_drewN|apply Kd.V_drew));exact d6.out) b2 (Nat.le_of_eq hg.symm)) hb) (Kd.V_below (Kd.V_elderB (by (with_reducible repeat (first|apply Kd.V_alloc|apply Kd.V_drewN|apply Kd.V_drew));exact g8.out) b2 (Nat.le_of_eq hg.symm)) hb) (Kd.V_below (Kd.V_elderB (by (with_reducible repeat (first|apply Kd.V_alloc|apply Kd.V_drewN|apply Kd.V_drew));exact g9.out) b2 (Nat.le_of_eq hg.symm)) hb) (Kd.V_below (Kd.V_elderB (by (with_reducible repeat (first|apply Kd.V_alloc|apply Kd.V_drewN|apply Kd.V_drew));exact h0.out) b2 (Nat.le_of_eq hg.symm)) hb) (Kd.V_below (Kd.V_elderB (by (with_reducible repeat (first|apply Kd.V_alloc|apply Kd.V_drewN|apply Kd.V_drew));exact h1.out) b2 (Nat.le_of_eq hg.symm)) hb) (blk_below (blkP b4) hb) (Kd.C_below (by repeat (first|(with_reducible exact e9.out)|(with_reducible refine Kd.C_alloc ?_ _)|(with_reducible refine Kd.C_drewN ?_ _)|(with_reducible refine Kd.C_drew ?_)|exact e9.out)) hb) (Kd.C_below (by repeat (first|(with_reducible exact f5.out)|(with_reducible refine Kd.C_alloc ?_ _)|(with_reducible refine Kd.C_drewN ?_ _)|(with_reducible refine Kd.C_drew ?_)|exact f5.out)) hb) (Kd.C_below (by repeat (first|(with_reducible exact f6.out)|(with_reducible refine Kd.C_alloc ?_ _)|(with_reducible refine Kd.C_drewN ?_ _)|(with_reducible refine Kd.C_drew ?_)|exact f6.out)) hb) (Kd.C_below (by repeat (first|(with_reducible exact f7.out)|(with_reducible refine Kd.C_alloc ?_ _)|(with_reducible refine Kd.C_drewN ?_ _)|(with_reducible refine Kd.C_drew ?_)|exact f7.out)) hb) (below_step (belowP HB) hb) (hbox) ((by rw [hg];exact (below_size (belowP HB)):w.heap.size≤b2)) ((by rw [hg];exact (below_size (belowP HB)):w.heap.size≤b2)) ((by rw [hg];exact Nat.ne_of_lt (blk_lt (blkP b4)):b5≠b2)) ((by rw [hg];exact Nat.ne_of_gt (blk_lt (blkP b4)):b2≠b5)) ?_;clear d1 b8 e8 e0 d6 g8 g9 h0 h1 b4 e9 f5 f6 f7 HB;intro d1 b8 e8 e0 d6 g8 g9 h0 h1 b4 e9 f5 f6 f7 HB b6 GW293 r0 g5 w3;clear hb hbox hg;have Q5:=w3.out;have Q6:=g5.out;have Q7:o5.cell? ⟨b2,0,none⟩=some (.int .i64 0):=(blk_cell b6.out 0).trans rfl;have Q8:o5.cell? ⟨b2,1,none⟩=some (.int .i64 0):=(blk_cell b6.out 1).trans rfl;have Q9:o5.cell? ⟨b2,2,none⟩=some (.int .i64 0):=(blk_cell b6.out 2).trans rfl;have R0:o5.cell? ⟨b2,3,none⟩=some (.slice none 0 0):=(blk_cell b6.out 3).trans rfl;have R1:o5.cell? ⟨b2,4,none⟩=some (.slice none 0 0):=(blk_cell b6.out 4).trans rfl;have R2:o5.cell? ⟨b2,5,none⟩=some (.slice none 0 0):=(blk_cell b6.out 5).trans rfl;have R3:o5.cell? ⟨b2,6,none⟩=some (.slice none 0 0):=(blk_cell b6.out 6).trans rfl;have R4:=blk_frozen b6.out 0;have R5:=blk_frozen b6.out 1;have R6:=blk_frozen b6.out 2;have R7:=blk_frozen b6.out 3;have R8:=blk_frozen b6.out 4;have R9:=blk_frozen b6.out 5;have S0:=blk_frozen b6.out 6))
             go_roundg k2
             case measure=>have:=i3.out;have:=m7.out;omega
             case rel=>exact ⟨(m6),(wrap64 (b1 + 1)),tz3,H',⟨by have:=i3.out;have:=m7.out;omega⟩,⟨by (with_reducible repeat (first|apply Kd.V_alloc|apply Kd.V_drewN|apply Kd.V_drew));exact Kd.V_mono (Kd.V_far (p:=⟨b2,6,none⟩) (Kd.V_far (p:=⟨b2,5,none⟩) (Kd.V_far (p:=⟨b2,4,none⟩) (Kd.V_far (p:=⟨b2,3,none⟩) (Kd.V_far (p:=⟨b2,2,none⟩) (Kd.V_far (p:=⟨b2,1,none⟩) (Kd.V_far (p:=⟨b2,0,none⟩) (Kd.V_mono d1.out (fun k_ hk=>(⟨hk,hk.2⟩:_∧k_≠b2))) (fun _ hk=>hk.2) (.int .i64 ((rd_T48 b0 b1).f0))) (fun _ hk=>hk.2) (.int .i64 ((rd_T48 b0 b1).f1))) (fun _ hk=>hk.2) (.int .i64 ((rd_T48 b0 b1).f2.f0))) (fun _ hk=>hk.2) (.slice c0 ((rd_T48 b0 b1).f2.f1).length c1)) (fun _ hk=>hk.2) (.slice d0 ((rd_T48 b0 b1).f2.f2).length d2)) (fun _ hk=>hk.2) (.slice d3 ((rd_T48 b0 b1).f3).length d4)) (fun _ hk=>hk.2) (.slice d5 ((rd_T48 b0 b1).f4).length d7)) (fun _ hk=>⟨hk.1.1.1,⟨hk.1.1.2.1,hk.1.1.2.2⟩⟩)⟩,⟨by (with_reducible repeat (first|apply Kd.R_alloc|apply Kd.R_drewN|apply Kd.R_drew));exact Kd.R_mono (Kd.R_far (p:=⟨b2,6,none⟩) (Kd.R_far (p:=⟨b2,5,none⟩) (Kd.R_far (p:=⟨b2,4,none⟩) (Kd.R_far (p:=⟨b2,3,none⟩) (Kd.R_far (p:=⟨b2,2,none⟩) (Kd.R_far (p:=⟨b2,1,none⟩) (Kd.R_far (p:=⟨b2,0,none⟩) (Kd.R_types b8.out b6.out (by decide)) (fun _ hk=>hk.2) (.int .i64 ((rd_T48 b0 b1).f0))) (fun _ hk=>hk.2) (.int .i64 ((rd_T48 b0 b1).f1))) (fun _ hk=>hk.2) (.int .i64 ((rd_T48 b0 b1).f2.f0))) (fun _ hk=>hk.2) (.slice c0 ((rd_T48 b0 b1).f2.f1).length c1)) (fun _ hk=>hk.2) (.slice d0 ((rd_T48 b0 b1).f2.f2).length d2)) (fun _ hk=>hk.2) (.slice d3 ((rd_T48 b0 b1).f3).length d4)) (fun _ hk=>hk.2) (.slice d5 ((rd_T48 b0 b1).f4).length d7)) (fun _ hk=>hk.1)⟩,⟨by (with_reducible repeat (first|apply Kd.V_alloc|apply Kd.V_drewN|apply Kd.V_drew));exact Kd.V_mono (Kd.V_far (p:=⟨b2,6,none⟩) (Kd.V_far (p:=⟨b2,5,none⟩) (Kd.V_far (p:=⟨b2,4,none⟩) (Kd.V_far (p:=⟨b2,3,none⟩) (Kd.V_far (p:=⟨b2,2,none⟩) (Kd.V_far (p:=⟨b2,1,none⟩) (Kd.V_far (p:=⟨b2,0,none⟩) (Kd.V_mono e8.out (fun k_ hk=>(⟨hk,hk.2⟩:_∧k_≠b2))) (fun _ hk=>hk.2) (.int .i64 ((rd_T48 b0 b1).f0))) (fun _ hk=>hk.2) (.int .i64 ((rd_T48 b0 b1).f1))) (fun _ hk=>hk.2) (.int .i64 ((rd_T48 b0 b1).f2.f0))) (fun _ hk=>hk.2) (.slice c0 ((rd_T48 b0 b1).f2.f1).length c1)) (fun _ hk=>hk.2) (.slice d0 ((rd_T48 b0 b1).f2.f2).length d2)) (fun _ hk=>hk.2) (.slice d3 ((rd_T48 b0 b1).f3).length d4)) (fun _ hk=>hk.2) (.slice d5 ((rd_T48 b0 b1).f4).length d7)) (fun _ hk=>⟨hk.1.1.1,⟨hk.1.1.2.1,hk.1.1.2.2⟩⟩)⟩,⟨by (with_reducible repeat (first|apply Kd.V_alloc|apply Kd.V_drewN|apply Kd.V_drew));exact Kd.V_mono (Kd.V_far (p:=⟨b2,6,none⟩) (Kd.V_far (p:=⟨b2,5,none⟩) (Kd.V_far (p:=⟨b2,4,none⟩) (Kd.V_far (p:=⟨b2,3,none⟩) (Kd.V_far (p:=⟨b2,2,none⟩) (Kd.V_far (p:=⟨b2,1,none⟩) (Kd.V_far (p:=⟨b2,0,none⟩) (Kd.V_mono e0.out (fun k_ hk=>(⟨hk,hk.2⟩:_∧k_≠b2))) (fun _ hk=>hk.2) (.int .i64 ((rd_T48 b0 b1).f0))) (fun _ hk=>hk.2) (.int .i64 ((rd_T48 b0 b1).f1))) (fun _ hk=>hk.2) (.int .i64 ((rd_T48 b0 b1).f2.f0))) (fun _ hk=>hk.2) (.slice c0 ((rd_T48 b0 b1).f2.f1).length c1)) (fun _ hk=>hk.2) (.slice d0 ((rd_T48 b0 b1).f2.f2).length d2)) (fun _ hk=>hk.2) (.slice d3 ((rd_T48 b0 b1).f3).length d4)) (fun _ hk=>hk.2) (.slice d5 ((rd_T48 b0 b1).f4).length d7)) (fun _ hk=>⟨hk.1.1.1,⟨hk.1.1.2.1,hk.1.1.2.2⟩⟩)⟩,⟨by (with_reducible repeat (first|apply Kd.V_alloc|apply Kd.V_drewN|apply Kd.V_drew));exact Kd.V_mono (Kd.V_far (p:=⟨b2,6,none⟩) (Kd.V_far (p:=⟨b2,5,none⟩) (Kd.V_far (p:=⟨b2,4,none⟩) (Kd.V_far (p:=⟨b2,3,none⟩) (Kd.V_far (p:=⟨b2,2,none⟩) (Kd.V_far (p:=⟨b2,1,none⟩) (Kd.V_far (p:=⟨b2,0,none⟩) (Kd.V_mono d6.out (fun k_ hk=>(⟨hk,hk.2⟩:_∧k_≠b2))) (fun _ hk=>hk.2) (.int .i64 ((rd_T48 b0 b1).f0))) (fun _ hk=>hk.2) (.int .i64 ((rd_T48 b0 b1).f1))) (fun _ hk=>hk.2) (.int .i64 ((rd_T48 b0 b1).f2.f0))) (fun _ hk=>hk.2) (.slice c0 ((rd_T48 b0 b1).f2.f1).length c1)) (fun _ hk=>hk.2) (.slice d0 ((rd_T48 b0 b1).f2.f2).length d2)) (fun _ hk=>hk.2) (.slice d3 ((rd_T48 b0 b1).f3).length d4)) (fun _ hk=>hk.2) (.slice d5 ((rd_T48 b0 b1).f4).length d7)) (fun _ hk=>⟨hk.1.1.1,⟨hk.1.1.2.1,hk.1.1.2.2⟩⟩)⟩,⟨by refine blkQ ?_;refine blk_far ?_ g5.out _;refine blkQ ?_;refine blk_far ?_ g5.out _;refine blkQ ?_;refine blk_far ?_ g5.out _;refine blkQ ?_;refine blk_far ?_ g5.out _;refine blkQ ?_;refine blk_far ?_ g5.out _;refine blkQ ?_;refine blk_far ?_ g5.out _;refine blkQ ?_;refine blk_far ?_ g5.out _;refine blkQ ?_;exact b4.out⟩,⟨by repeat (first|(with_reducible first|exact HB.out|apply below_alloc|apply pw_below_drewN|apply below_drew1|refine below_set ?_ l3.out|refine below_set ?_ r0.out)|exact HB.out)⟩⟩
           ·rw [if_neg q0] at H
            exact absurd H (by simp)
          ·rw [if_neg p9] at H
           exact absurd H (by simp)
         ·rw [if_neg n5] at H
          have H9:decide (b1 < (b0.length:Int))=false:=decide_eq_false n5
          clear n5
          have H':=Aside0.mk H
          clear H
          go_wp2
          go_roundg k2
          case measure=>have:=i3.out;have:=m7.out;omega
          case rel=>exact ⟨(m6),(wrap64 (b7 + 1)),tz3,H',⟨by have:=i3.out;have:=m7.out;omega⟩,⟨by (with_reducible repeat (first|apply Kd.V_alloc|apply Kd.V_drewN|apply Kd.V_drew));exact d1.out⟩,⟨by (with_reducible repeat (first|apply Kd.R_alloc|apply Kd.R_drewN|apply Kd.R_drew));exact b8.out⟩,⟨by (with_reducible repeat (first|apply Kd.V_alloc|apply Kd.V_drewN|apply Kd.V_drew));exact e0.out⟩,⟨by (with_reducible repeat (first|apply Kd.V_alloc|apply Kd.V_drewN|apply Kd.V_drew));exact d6.out⟩,⟨by refine blkQ ?_;exact b4.out⟩,⟨by repeat (first|(with_reducible first|exact HB.out|apply below_alloc|apply pw_below_drewN|apply below_drew1|refine below_set ?_ l3.out)|exact HB.out)⟩⟩
     ·rw [if_neg o7] at H
      exact absurd H (by simp)
    ·rw [if_neg c10] at H
     exact absurd H (by simp)
   ·rw [if_neg c9] at H
    have v5:decide (b7 < (b3.length:Int))=false:=decide_eq_false c9
    clear c9
    obtain rfl:=Option.some.inj H
    go_wp2
    go_ret
    exact ⟨_,rE,by (with_reducible repeat (first|apply Kd.V_alloc|apply Kd.V_drewN|apply Kd.V_drew));exact Kd.V_mono d1.out (fun _ hk=>hk.1),by repeat (first|(with_reducible first|exact HB.out|apply below_alloc|apply pw_below_drewN|apply below_drew1|refine below_set ?_ l3.out)|exact HB.out)⟩
mutual
def nomination_settled.j0:Nat→Int→Int→Int→Int→Int→List Int→List (S30)→ByteArray→List ByteArray→List ByteArray→List ByteArray→List (S48)→Option (Int × Int × Int × Int × Int × List Int × (List (S30)) × ByteArray × List ByteArray × List ByteArray × List ByteArray × (List (S48)))
 | 0,_,_,_,_,_,_,_,_,_,_,_,_=>none
 | k + 1,i0,j4,j5,j6,j7,j8,j9,k0,k1,i1,k4,i2=>(nomination_view.f k i0 j4 j5 j6 j7 j8 j9 k0 k1 i1 k4 i2).bind fun b3=>((nomination_next.f k i0 j4 j5 j6 j7 j8 j9 k0 k1 i1 k4 i2 b3).bind fun q2=>(nomination_settled.l0 k q2.1 q2.2 i0 j4 j5 j6 j7 j8 j9 k0 k1 i1 k4 i2 b3))
def nomination_settled.l0:Nat→ByteArray→Bool→Int→Int→Int→Int→Int→List Int→List (S30)→ByteArray→List ByteArray→List ByteArray→List ByteArray→List (S48)→List (S87)→Option (Int × Int × Int × Int × Int × List Int × (List (S30)) × ByteArray × List ByteArray × List ByteArray × List ByteArray × (List (S48)))
 | 0,_,_,_,_,_,_,_,_,_,_,_,_,_,_,_=>none
 | k + 1,x4,x5,i0,j4,j5,j6,j7,j8,j9,k0,k1,i1,k4,i2,n1=>if x5=true then ((nomination_put.f k i1 x4).bind fun g2=>((nomination_next.f k i0 j4 j5 j6 j7 j8 j9 k0 k1 g2 k4 i2 n1).bind fun q3=>(nomination_settled.l0 k q3.1 q3.2 i0 j4 j5 j6 j7 j8 j9 k0 k1 g2 k4 i2 n1))) else ((api_Nomination.f i2).bind fun l3=>((nomination_say.f i0 j4 j5 j6 j7 j8 j9 k0 k1 i1 k4 i2).bind fun h6=>(if l3.length < 1172812402961 then (nomination_settled.l1 k (l3 ++ [(⟨h6.1,h6.2.1,(⟨h6.2.2.1,h6.2.2.2.1,h6.2.2.2.2.1⟩:S30),h6.2.2.2.2.2.1,h6.2.2.2.2.2.2⟩:S48)]) i1 (i1.length:Int) 0 i0 j4 j5 j6 j7 j8 j9 k0 k1 i1 k4 i2 n1) else (none))))
def nomination_settled.l1:Nat→List (S48)→List ByteArray→Int→Int→Int→Int→Int→Int→Int→List Int→List (S30)→ByteArray→List ByteArray→List ByteArray→List ByteArray→List (S48)→List (S87)→Option (Int × Int × Int × Int × Int × List Int × (List (S30)) × ByteArray × List ByteArray × List ByteArray × List ByteArray × (List (S48)))
 | 0,_,_,_,_,_,_,_,_,_,_,_,_,_,_,_,_,_=>none
 | k + 1,x6,q4,s8,n2,i0,j4,j5,j6,j7,j8,j9,k0,k1,i1,k4,i2,n1=>if n2 < s8 then (if 0≤n2 then (if n2 < (q4.length:Int) then ((nomination_saying.f k x6 (rdOf ByteArray.empty q4 n2)).bind fun M8=>((federated_Confirms.f k n1 i0 M8.2).bind fun o5=>(if o5=true then ((nomination_put.f k k4 (rdOf ByteArray.empty q4 n2)).bind fun g8=>(nomination_settled.l1 k x6 q4 s8 (wrap64 (n2 + 1)) i0 j4 j5 j6 j7 j8 j9 k0 k1 i1 g8 i2 n1)) else (nomination_settled.l1 k x6 q4 s8 (wrap64 (n2 + 1)) i0 j4 j5 j6 j7 j8 j9 k0 k1 i1 k4 i2 n1)))) else (none)) else (none)) else (some (i0,j4,j5,j6,j7,j8,j9,k0,k1,i1,k4,i2))
end
def nomination_settled.f (k:Nat) (d3:Int) (d6:Int) (d7:Int) (d8:Int) (e0:Int) (d1:List Int) (d2:List (S30)) (e1:ByteArray) (g9:List ByteArray) (f8:List ByteArray) (e2:List ByteArray) (d4:List (S48)):Option (Int × Int × Int × Int × Int × List Int × (List (S30)) × ByteArray × List ByteArray × List ByteArray × List ByteArray × (List (S48))):=if (e2.length:Int)=0 then ((nomination_voted.f k d3 d6 d7 d8 e0 d1 d2 e1 g9 f8 e2 d4).bind fun h8=>(nomination_settled.j0 k d3 d6 d7 d8 e0 d1 d2 e1 h8 f8 e2 d4)) else (nomination_settled.j0 k d3 d6 d7 d8 e0 d1 d2 e1 g9 f8 e2 d4)
theorem nomination_settled.mono_l:∀ k,(∀ y0 y1 y2 y3 y4 y5 y6 y7 y8 y9 l4 l5,LeO (nomination_settled.j0 k y0 y1 y2 y3 y4 y5 y6 y7 y8 y9 l4 l5) (nomination_settled.j0 (k + 1) y0 y1 y2 y3 y4 y5 y6 y7 y8 y9 l4 l5))∧(∀ y0 y1 y2 y3 y4 y5 y6 y7 y8 y9 l4 l5 n3 n4 n5,LeO (nomination_settled.l0 k y0 y1 y2 y3 y4 y5 y6 y7 y8 y9 l4 l5 n3 n4 n5) (nomination_settled.l0 (k + 1) y0 y1 y2 y3 y4 y5 y6 y7 y8 y9 l4 l5 n3 n4 n5))∧(∀ y0 y1 y2 y3 y4 y5 y6 y7 y8 y9 l4 l5 n3 n4 n5 s9 t0,LeO (nomination_settled.l1 k y0 y1 y2 y3 y4 y5 y6 y7 y8 y9 l4 l5 n3 n4 n5 s9 t0) (nomination_settled.l1 (k + 1) y0 y1 y2 y3 y4 y5 y6 y7 y8 y9 l4 l5 n3 n4 n5 s9 t0))
 | 0=>⟨fun _ _ _ _ _ _ _ _ _ _ _ _ r h=>by simp [nomination_settled.j0] at h,fun _ _ _ _ _ _ _ _ _ _ _ _ _ _ _ r h=>by simp [nomination_settled.l0] at h,fun _ _ _ _ _ _ _ _ _ _ _ _ _ _ _ _ _ r h=>by simp [nomination_settled.l1] at h⟩
 | k + 1=>by
  obtain ⟨q5,q6,q7⟩:=nomination_settled.mono_l k
  refine ⟨?_,?_,?_⟩
  ·intro y0 y1 y2 y3 y4 y5 y6 y7 y8 y9 l4 l5
   unfold nomination_settled.j0
   repeat' first
   | (with_reducible exact q5 _ _ _ _ _ _ _ _ _ _ _ _)
   | (with_reducible exact q6 _ _ _ _ _ _ _ _ _ _ _ _ _ _ _)
   | (with_reducible exact q7 _ _ _ _ _ _ _ _ _ _ _ _ _ _ _ _ _)
   | (with_reducible apply federated_Confirms.mono)
   | (with_reducible apply nomination_next.mono)
   | (with_reducible apply nomination_put.mono)
   | (with_reducible apply nomination_saying.mono)
   | (with_reducible apply nomination_view.mono)
   | (with_reducible apply nomination_voted.mono)
   | (with_reducible exact LeO.refl _)
   | (with_reducible exact LeO.none _)
   | (with_reducible refine LeO.ite ?_ ?_)
   | (with_reducible refine LeO.bind ?_ (fun _=>?_))
  ·intro y0 y1 y2 y3 y4 y5 y6 y7 y8 y9 l4 l5 n3 n4 n5
   unfold nomination_settled.l0
   repeat' first
   | (with_reducible exact q5 _ _ _ _ _ _ _ _ _ _ _ _)
   | (with_reducible exact q6 _ _ _ _ _ _ _ _ _ _ _ _ _ _ _)
   | (with_reducible exact q7 _ _ _ _ _ _ _ _ _ _ _ _ _ _ _ _ _)
   | (with_reducible apply federated_Confirms.mono)
   | (with_reducible apply nomination_next.mono)
   | (with_reducible apply nomination_put.mono)
   | (with_reducible apply nomination_saying.mono)
   | (with_reducible apply nomination_view.mono)
   | (with_reducible apply nomination_voted.mono)
   | (with_reducible exact LeO.refl _)
   | (with_reducible exact LeO.none _)
   | (with_reducible refine LeO.ite ?_ ?_)
   | (with_reducible refine LeO.bind ?_ (fun _=>?_))
  ·intro y0 y1 y2 y3 y4 y5 y6 y7 y8 y9 l4 l5 n3 n4 n5 s9 t0
   unfold nomination_settled.l1
   repeat' first
   | (with_reducible exact q5 _ _ _ _ _ _ _ _ _ _ _ _)
   | (with_reducible exact q6 _ _ _ _ _ _ _ _ _ _ _ _ _ _ _)
   | (with_reducible exact q7 _ _ _ _ _ _ _ _ _ _ _ _ _ _ _ _ _)
   | (with_reducible apply federated_Confirms.mono)
   | (with_reducible apply nomination_next.mono)
   | (with_reducible apply nomination_put.mono)
   | (with_reducible apply nomination_saying.mono)
   | (with_reducible apply nomination_view.mono)
   | (with_reducible apply nomination_voted.mono)
   | (with_reducible exact LeO.refl _)
   | (with_reducible exact LeO.none _)
   | (with_reducible refine LeO.ite ?_ ?_)
   | (with_reducible refine LeO.bind ?_ (fun _=>?_))
theorem nomination_settled.mono:∀ a0 a1 a2 a3 a4 a5 a6 a7 a8 a9 t1 t2 k,LeO (nomination_settled.f k a0 a1 a2 a3 a4 a5 a6 a7 a8 a9 t1 t2) (nomination_settled.f (k + 1) a0 a1 a2 a3 a4 a5 a6 a7 a8 a9 t1 t2):=by
 intro a0 a1 a2 a3 a4 a5 a6 a7 a8 a9 t1 t2 k
 obtain ⟨q5,q6,q7⟩:=nomination_settled.mono_l k
 unfold nomination_settled.f
 repeat' first
   | (with_reducible exact q5 _ _ _ _ _ _ _ _ _ _ _ _)
   | (with_reducible exact q6 _ _ _ _ _ _ _ _ _ _ _ _ _ _ _)
   | (with_reducible exact q7 _ _ _ _ _ _ _ _ _ _ _ _ _ _ _ _ _)
   | (with_reducible apply federated_Confirms.mono)
   | (with_reducible apply nomination_next.mono)
   | (with_reducible apply nomination_put.mono)
   | (with_reducible apply nomination_saying.mono)
   | (with_reducible apply nomination_view.mono)
   | (with_reducible apply nomination_voted.mono)
   | (with_reducible exact LeO.refl _)
   | (with_reducible exact LeO.none _)
   | (with_reducible refine LeO.ite ?_ ?_)
   | (with_reducible refine LeO.bind ?_ (fun _=>?_))
def nomination_settled.T8:Bool × List (List Nat × List Nat):=(true,[([],[]),([0],[0]),([1],[1]),([],[]),([3,2],[3]),([4],[4]),([2,5,4],[2,5]),([6,6,0,1,2,3,4,5,6],[6])])
def nomination_settled.B8:List Nat:=[0,1,3,0,15,31,63,127]
theorem nomination_settled.tab8:rtab .any (opsOf Try.f13 8)=nomination_settled.T8:=by kernel_rfl
theorem nomination_settled.bits8:waitsOk nomination_settled.T8.2 nomination_settled.B8=true:=by kernel_rfl
set_option maxHeartbeats 8000000 in
set_option maxRecDepth 100000 in
theorem nomination_settled.calls (k:Nat) (d3:Int) (d6:Int) (d7:Int) (d8:Int) (e0:Int) (b5:Nat→Prop) (f4:Option Addr) (f2:Nat) (d1:List Int) (b6:Nat→Prop) (f5:Option Addr) (f3:Nat) (d2:List (S30)) (e1:ByteArray) (b7:Nat→Prop) (m1:Option Addr) (m2:Nat) (g9:List ByteArray) (b8:Nat→Prop) (h7:Option Addr) (h5:Nat) (f8:List ByteArray) (b9:Nat→Prop) (g6:Option Addr) (g4:Nat) (e2:List ByteArray) (c0:Nat→Prop) (f7:Option Addr) (f6:Nat) (d4:List (S48)) (r1:Int) (r2:Int) (r3:Int) (r4:Int) (r5:Int) (r6:List Int) (r7:List (S30)) (r8:ByteArray) (r9:List ByteArray) (r10:List ByteArray) (r11:List ByteArray) (r12:List (S48)) (w:World) (M9:Kd.V (Kd.int .i64) 3 w w.heap.size (fun k_=>b5 k_) (.slice f4 d1.length f2) d1) (N0:Kd.V k30 30 w w.heap.size (fun k_=>b6 k_) (.slice f5 d2.length f3) d2) (N1:Kd.V Kd.string 9 w w.heap.size (fun k_=>b7 k_) (.slice m1 g9.length m2) g9) (N2:Kd.V Kd.string 9 w w.heap.size (fun k_=>b8 k_) (.slice h7 f8.length h5) f8) (N3:Kd.V Kd.string 9 w w.heap.size (fun k_=>b9 k_) (.slice g6 e2.length g4) e2) (N4:Kd.V k48 48 w w.heap.size (fun k_=>c0 k_) (.slice f7 d4.length f6) d4) (h:nomination_settled.f k d3 d6 d7 d8 e0 d1 d2 e1 g9 f8 e2 d4=some (r1,r2,r3,r4,r5,r6,r7,r8,r9,r10,r11,r12)) :
  Calls Try.prog 13 #[.agg #[.int .i64 d3,.int .i64 d6,.int .i64 d7,.int .i64 d8,.int .i64 e0,.slice f4 d1.length f2,.slice f5 d2.length f3,.string e1,.slice m1 g9.length m2,.slice h7 f8.length h5,.slice g6 e2.length g4,.slice f7 d4.length f6]] w fun e w'=>∃ E9 F0 F1 F2 F3 F4:Value,e = .returned (.agg #[.int .i64 r1,.int .i64 r2,.int .i64 r3,.int .i64 r4,.int .i64 r5,E9,F0,.string r8,F1,F2,F3,F4])∧Kd.V (Kd.int .i64) 3 w' w.heap.size (fun k_=>((b5 k_∨b6 k_∨b7 k_∨b8 k_∨b9 k_∨c0 k_)∨w.heap.size≤k_)) E9 r6∧Kd.V k30 30 w' w.heap.size (fun k_=>((b5 k_∨b6 k_∨b7 k_∨b8 k_∨b9 k_∨c0 k_)∨w.heap.size≤k_)) F0 r7∧Kd.V Kd.string 9 w' w.heap.size (fun k_=>((b5 k_∨b6 k_∨b7 k_∨b8 k_∨b9 k_∨c0 k_)∨w.heap.size≤k_)) F1 r9∧Kd.V Kd.string 9 w' w.heap.size (fun k_=>((b5 k_∨b6 k_∨b7 k_∨b8 k_∨b9 k_∨c0 k_)∨w.heap.size≤k_)) F2 r10∧Kd.V Kd.string 9 w' w.heap.size (fun k_=>((b5 k_∨b6 k_∨b7 k_∨b8 k_∨b9 k_∨c0 k_)∨w.heap.size≤k_)) F3 r11∧Kd.V k48 48 w' w.heap.size (fun k_=>((b5 k_∨b6 k_∨b7 k_∨b8 k_∨b9 k_∨c0 k_)∨w.heap.size≤k_)) F4 r12∧Below w.heap.size w w':=by
 have hu33:=Try.underlying33
 have hu53:=Try.underlying53
 have i3:=Aside0.mk (show Kd.V (Kd.int .i64) 3 w w.heap.size (fun k_=>((b5 k_∨b6 k_∨b7 k_∨b8 k_∨b9 k_∨c0 k_)∨w.heap.size≤k_)) (.slice f4 d1.length f2) d1 from Kd.V_mono M9 (fun k_ hk=>.inl (.inl hk)))
 have i4:=Aside0.mk (show Kd.V k30 30 w w.heap.size (fun k_=>((b5 k_∨b6 k_∨b7 k_∨b8 k_∨b9 k_∨c0 k_)∨w.heap.size≤k_)) (.slice f5 d2.length f3) d2 from Kd.V_mono N0 (fun k_ hk=>.inl (.inr (.inl hk))))
 have l6:=Aside0.mk (show Kd.V Kd.string 9 w w.heap.size (fun k_=>((b5 k_∨b6 k_∨b7 k_∨b8 k_∨b9 k_∨c0 k_)∨w.heap.size≤k_)) (.slice m1 g9.length m2) g9 from Kd.V_mono N1 (fun k_ hk=>.inl (.inr (.inr (.inl hk)))))
 have i5:=Aside0.mk (show Kd.V Kd.string 9 w w.heap.size (fun k_=>((b5 k_∨b6 k_∨b7 k_∨b8 k_∨b9 k_∨c0 k_)∨w.heap.size≤k_)) (.slice h7 f8.length h5) f8 from Kd.V_mono N2 (fun k_ hk=>.inl (.inr (.inr (.inr (.inl hk))))))
 have i6:=Aside0.mk (show Kd.V Kd.string 9 w w.heap.size (fun k_=>((b5 k_∨b6 k_∨b7 k_∨b8 k_∨b9 k_∨c0 k_)∨w.heap.size≤k_)) (.slice g6 e2.length g4) e2 from Kd.V_mono N3 (fun k_ hk=>.inl (.inr (.inr (.inr (.inr (.inl hk)))))))
 have k5:=Aside0.mk (show Kd.V k48 48 w w.heap.size (fun k_=>((b5 k_∨b6 k_∨b7 k_∨b8 k_∨b9 k_∨c0 k_)∨w.heap.size≤k_)) (.slice f7 d4.length f6) d4 from Kd.V_mono N4 (fun k_ hk=>.inl (.inr (.inr (.inr (.inr (.inr hk)))))))
 have HB:=Aside0.mk (Below.refl w.heap.size w)
 have H:(if (e2.length:Int)=0 then ((nomination_voted.f k d3 d6 d7 d8 e0 d1 d2 e1 g9 f8 e2 d4).bind fun h8=>(nomination_settled.j0 k d3 d6 d7 d8 e0 d1 d2 e1 h8 f8 e2 d4)) else (nomination_settled.j0 k d3 d6 d7 d8 e0 d1 d2 e1 g9 f8 e2 d4))=some (r1,r2,r3,r4,r5,r6,r7,r8,r9,r10,r11,r12):=h
 clear h
 have t3:=Aside0.mk H
 clear H
 go_enter Try.func13,Try.ntmps13
 go_upto_if 14 with (first|((with_reducible refine gate_dst (N:=1) rfl ?_);refine box_event ?hg (N:=1) ?hd (cs:=#[.int .i64 d3,.int .i64 d6,.int .i64 d7,.int .i64 d8,.int .i64 e0,.slice f4 d1.length f2,.slice f5 d2.length f3,.string e1,.slice m1 g9.length m2,.slice h7 f8.length h5,.slice g6 e2.length g4,.slice f7 d4.length f6]) (t:=33) ?hr ?_;(case hd=>rfl);(case hg=>rfl);(case hr=>first|(go_simp;done)|(go_simp;rfl));intro b1 hg w3 hbox hb;refine ap10 (Kd.V_below (Kd.V_elderB (by (with_reducible repeat (first|apply Kd.V_alloc|apply Kd.V_drewN|apply Kd.V_drew));exact i3.out) b1 (Nat.le_of_eq hg.symm)) hb) (Kd.V_below (Kd.V_elderB (by (with_reducible repeat (first|apply Kd.V_alloc|apply Kd.V_drewN|apply Kd.V_drew));exact i4.out) b1 (Nat.le_of_eq hg.symm)) hb) (Kd.V_below (Kd.V_elderB (by (with_reducible repeat (first|apply Kd.V_alloc|apply Kd.V_drewN|apply Kd.V_drew));exact l6.out) b1 (Nat.le_of_eq hg.symm)) hb) (Kd.V_below (Kd.V_elderB (by (with_reducible repeat (first|apply Kd.V_alloc|apply Kd.V_drewN|apply Kd.V_drew));exact i5.out) b1 (Nat.le_of_eq hg.symm)) hb) (Kd.V_below (Kd.V_elderB (by (with_reducible repeat (first|apply Kd.V_alloc|apply Kd.V_drewN|apply Kd.V_drew));exact i6.out) b1 (Nat.le_of_eq hg.symm)) hb) (Kd.V_below (Kd.V_elderB (by (with_reducible repeat (first|apply Kd.V_alloc|apply Kd.V_drewN|apply Kd.V_drew));exact k5.out) b1 (Nat.le_of_eq hg.symm)) hb) (below_step (belowP HB) hb) (hbox) ((by rw [hg];exact (below_size (belowP HB)):w.heap.size≤b1)) ((by rw [hg];exact (below_size (belowP HB)):w.heap.size≤b1)) ?_;clear i3 i4 l6 i5 i6 k5 HB;intro i3 i4 l6 i5 i6 k5 HB b0 GW472 m4;clear hb hbox hg)|((with_reducible refine gate_dst (N:=2) rfl ?_);refine box_event ?hg (N:=2) ?hd (cs:=#[.int .i64 0,.int .i64 0,.int .i64 0,.int .i64 0,.int .i64 0,.slice none 0 0,.slice none 0 0,.string (⟨#[]⟩:ByteArray),.slice none 0 0,.slice none 0 0,.slice none 0 0,.slice none 0 0]) (t:=33) ?hr ?_;(case hd=>rfl);(case hg=>rfl);(case hr=>first|(go_simp;done)|(go_simp;rfl));intro b2 hg w4 hbox hb;refine ap13 (Kd.V_below (Kd.V_elderB (by (with_reducible repeat (first|apply Kd.V_alloc|apply Kd.V_drewN|apply Kd.V_drew));exact i3.out) b2 (Nat.le_of_eq hg.symm)) hb) (Kd.V_below (Kd.V_elderB (by (with_reducible repeat (first|apply Kd.V_alloc|apply Kd.V_drewN|apply Kd.V_drew));exact i4.out) b2 (Nat.le_of_eq hg.symm)) hb) (Kd.V_below (Kd.V_elderB (by (with_reducible repeat (first|apply Kd.V_alloc|apply Kd.V_drewN|apply Kd.V_drew));exact l6.out) b2 (Nat.le_of_eq hg.symm)) hb) (Kd.V_below (Kd.V_elderB (by (with_reducible repeat (first|apply Kd.V_alloc|apply Kd.V_drewN|apply Kd.V_drew));exact i5.out) b2 (Nat.le_of_eq hg.symm)) hb) (Kd.V_below (Kd.V_elderB (by (with_reducible repeat (first|apply Kd.V_alloc|apply Kd.V_drewN|apply Kd.V_drew));exact i6.out) b2 (Nat.le_of_eq hg.symm)) hb) (Kd.V_below (Kd.V_elderB (by (with_reducible repeat (first|apply Kd.V_alloc|apply Kd.V_drewN|apply Kd.V_drew));exact k5.out) b2 (Nat.le_of_eq hg.symm)) hb) (blk_below (blkP b0) hb) (below_step (belowP HB) hb) (hbox) ((by rw [hg];exact (below_size (belowP HB)):w.heap.size≤b2)) ((by rw [hg];exact (below_size (belowP HB)):w.heap.size≤b2)) ((by rw [hg];exact Nat.ne_of_lt (blk_lt (blkP b0)):b1≠b2)) ((by rw [hg];exact Nat.ne_of_gt (blk_lt (blkP b0)):b2≠b1)) ?_;clear i3 i4 l6 i5 i6 k5 b0 HB;intro i3 i4 l6 i5 i6 k5 b0 HB d5 GW473 m5 m6 l7;clear hb hbox hg;have Y9:=m6.out;have Z0:=l7.out;have t4:w4.cell? ⟨b1,0,none⟩=some (.int .i64 d3):=(blk_cell b0.out 0).trans rfl;have t5:w4.cell? ⟨b1,1,none⟩=some (.int .i64 d6):=(blk_cell b0.out 1).trans rfl;have t6:w4.cell? ⟨b1,2,none⟩=some (.int .i64 d7):=(blk_cell b0.out 2).trans rfl;have t7:w4.cell? ⟨b1,3,none⟩=some (.int .i64 d8):=(blk_cell b0.out 3).trans rfl;have t8:w4.cell? ⟨b1,4,none⟩=some (.int .i64 e0):=(blk_cell b0.out 4).trans rfl;have t9:w4.cell? ⟨b1,5,none⟩=some (.slice f4 d1.length f2):=(blk_cell b0.out 5).trans rfl;have u0:w4.cell? ⟨b1,6,none⟩=some (.slice f5 d2.length f3):=(blk_cell b0.out 6).trans rfl;have u1:w4.cell? ⟨b1,7,none⟩=some (.string e1):=(blk_cell b0.out 7).trans rfl;have u2:w4.cell? ⟨b1,8,none⟩=some (.slice m1 g9.length m2):=(blk_cell b0.out 8).trans rfl;have u3:w4.cell? ⟨b1,9,none⟩=some (.slice h7 f8.length h5):=(blk_cell b0.out 9).trans rfl;have u4:w4.cell? ⟨b1,10,none⟩=some (.slice g6 e2.length g4):=(blk_cell b0.out 10).trans rfl;have u5:w4.cell? ⟨b1,11,none⟩=some (.slice f7 d4.length f6):=(blk_cell b0.out 11).trans rfl;have u6:=blk_frozen b0.out 0;have u7:=blk_frozen b0.out 1;have u9:=blk_frozen b0.out 2;have v0:=blk_frozen b0.out 3;have v1:=blk_frozen b0.out 4;have v2:=blk_frozen b0.out 5;have v3:=blk_frozen b0.out 6;have v6:=blk_frozen b0.out 7;have v7:=blk_frozen b0.out 8;have v8:=blk_frozen b0.out 9;have v9:=blk_frozen b0.out 10;have w2:=blk_frozen b0.out 11))
 (try simp only [Act.put,List.setIfInBounds_toArray,List.set_cons_zero,List.set_cons_succ])
 go_cut [] (fun wc=>∃ (kq:Nat) (f0:List ByteArray) (w5:Value),Aside0 (nomination_settled.j0 kq d3 d6 d7 d8 e0 d1 d2 e1 f0 f8 e2 d4=some (r1,r2,r3,r4,r5,r6,r7,r8,r9,r10,r11,r12))∧Aside0 (kq≤k)∧Aside0 (Kd.V (Kd.int .i64) 3 wc w.heap.size (fun k_=>((b5 k_∨b6 k_∨b7 k_∨b8 k_∨b9 k_∨c0 k_)∨w.heap.size≤k_)∧k_≠b1∧k_≠b2) (.slice f4 d1.length f2) d1)∧Aside0 (Kd.V k30 30 wc w.heap.size (fun k_=>((b5 k_∨b6 k_∨b7 k_∨b8 k_∨b9 k_∨c0 k_)∨w.heap.size≤k_)∧k_≠b1∧k_≠b2) (.slice f5 d2.length f3) d2)∧Aside0 (Kd.V Kd.string 9 wc w.heap.size (fun k_=>((b5 k_∨b6 k_∨b7 k_∨b8 k_∨b9 k_∨c0 k_)∨w.heap.size≤k_)∧k_≠b1∧k_≠b2) w5 f0)∧Aside0 (Kd.V Kd.string 9 wc w.heap.size (fun k_=>((b5 k_∨b6 k_∨b7 k_∨b8 k_∨b9 k_∨c0 k_)∨w.heap.size≤k_)∧k_≠b1∧k_≠b2) (.slice h7 f8.length h5) f8)∧Aside0 (Kd.V Kd.string 9 wc w.heap.size (fun k_=>((b5 k_∨b6 k_∨b7 k_∨b8 k_∨b9 k_∨c0 k_)∨w.heap.size≤k_)∧k_≠b1∧k_≠b2) (.slice g6 e2.length g4) e2)∧Aside0 (Kd.V k48 48 wc w.heap.size (fun k_=>((b5 k_∨b6 k_∨b7 k_∨b8 k_∨b9 k_∨c0 k_)∨w.heap.size≤k_)∧k_≠b1∧k_≠b2) (.slice f7 d4.length f6) d4)∧Aside0 (wc.heap[b1]? = some (.cells #[.int .i64 d3,.int .i64 d6,.int .i64 d7,.int .i64 d8,.int .i64 e0,(.slice f4 d1.length f2),(.slice f5 d2.length f3),.string e1,w5,(.slice h7 f8.length h5),(.slice g6 e2.length g4),(.slice f7 d4.length f6)] 33 (0,0)))∧Aside0 (wc.heap[b2]? = some (.cells #[.int .i64 0,.int .i64 0,.int .i64 0,.int .i64 0,.int .i64 0,(.slice none 0 0),(.slice none 0 0),.string (⟨#[]⟩:ByteArray),(.slice none 0 0),(.slice none 0 0),(.slice none 0 0),(.slice none 0 0)] 33 (0,0)))∧Aside0 (Below w.heap.size w wc))
 case first=>
  have H:=t3.out
  clear t3
  by_cases c7:(e2.length:Int)=0
  ·rw [if_pos c7] at H
   have m7:((e2.length:Int) == 0)=true:=beq_iff_eq.mpr c7
   have s1:((e2.length:Int) != 0)=false:=bne_eq_false_iff_eq.mpr c7
   clear c7
   (first|rw [m7] | (simp only [i64_w,i32_w];rw [m7])|skip)
   replace H:=Option.bind_eq_some_iff.mp H
   obtain ⟨h8,F5,H⟩:=H
   replace H:(nomination_settled.j0 k d3 d6 d7 d8 e0 d1 d2 e1 h8 f8 e2 d4)=some (r1,r2,r3,r4,r5,r6,r7,r8,r9,r10,r11,r12):=H
   have A8:=Aside0.mk F5
   clear F5
   have H':=Aside0.mk H
   clear H
   have Z1:=m6.out
   have Z2:=l7.out
   obtain ⟨w6,w7,w8,w9,x0,x1,x2,x3,x7,x8,x9,z0⟩:=cells12 b0.out
   obtain ⟨z1,z2,z3,z4,z5,z6,z7,z8,z9,A0,A1,A2⟩:=froz12 b0.out
   go_wp2_with (first|((with_reducible refine gate_callee (f:=23) rfl ?_);refine goesL_ (some 16) rfl rfl Try.func23 (by kernel_rfl) rfl #[.agg #[.int .i64 d3,.int .i64 d6,.int .i64 d7,.int .i64 d8,.int .i64 e0,.slice f4 d1.length f2,.slice f5 d2.length f3,.string e1,.slice m1 g9.length m2,.slice h7 f8.length h5,.slice g6 e2.length g4,.slice f7 d4.length f6]] rfl tz0 ?_;(with_reducible refine (nomination_voted.calls k d3 d6 d7 d8 e0 _ _ d1 _ _ d2 e1 (fun k_=>((((b5 k_∨b6 k_∨b7 k_∨b8 k_∨b9 k_∨c0 k_)∨w.heap.size≤k_)∧k_≠b1)∧k_≠b2)) _ _ g9 _ _ f8 _ _ e2 (fun k_=>((((b5 k_∨b6 k_∨b7 k_∨b8 k_∨b9 k_∨c0 k_)∨w.heap.size≤k_)∧k_≠b1)∧k_≠b2)) _ _ d4 h8 _ ?side1 ?side2 ?side3 ?side4 ?side5 ?side6 ?side7 ?side8 ?side9 ?side10 A8.out).mono ?_);(case side1=>exact Kd.C_q ((Kd.V_reads' i3.out).2.2));(case side2=>exact (Kd.V_reads' i3.out).2.1);(case side3=>exact Kd.C_q ((Kd.V_reads' i4.out).2.2));(case side4=>exact (Kd.V_reads' i4.out).2.1);(case side5=>exact l6.out);(case side6=>exact Kd.C_q ((Kd.V_reads' i5.out).2.2));(case side7=>exact (Kd.V_reads' i5.out).2.1);(case side8=>exact Kd.C_q ((Kd.V_reads' i6.out).2.2));(case side9=>exact (Kd.V_reads' i6.out).2.1);(case side10=>exact k5.out);rintro e k6 ⟨Z3,rfl,g3,hb⟩;refine ⟨_,rfl,?_⟩;refine ap10 (Kd.V_below (by (with_reducible repeat (first|apply Kd.V_alloc|apply Kd.V_drewN|apply Kd.V_drew));exact i3.out) hb) (Kd.V_below (by (with_reducible repeat (first|apply Kd.V_alloc|apply Kd.V_drewN|apply Kd.V_drew));exact i4.out) hb) (Kd.V_below (by (with_reducible repeat (first|apply Kd.V_alloc|apply Kd.V_drewN|apply Kd.V_drew));exact l6.out) hb) (Kd.V_below (by (with_reducible repeat (first|apply Kd.V_alloc|apply Kd.V_drewN|apply Kd.V_drew));exact i5.out) hb) (Kd.V_below (by (with_reducible repeat (first|apply Kd.V_alloc|apply Kd.V_drewN|apply Kd.V_drew));exact i6.out) hb) (Kd.V_below (by (with_reducible repeat (first|apply Kd.V_alloc|apply Kd.V_drewN|apply Kd.V_drew));exact k5.out) hb) (Kd.V_lower (Kd.V_mono (ok':=fun k_=>((b5 k_∨b6 k_∨b7 k_∨b8 k_∨b9 k_∨c0 k_)∨w.heap.size≤k_)∧k_≠b1∧k_≠b2) g3 (fun k_ hk_=>⟨Or.elim hk_ (fun hs_=>Or.elim hs_ (fun hs_=>hs_.1.1) (fun hs_=>hs_.1.1)) (fun hn_=>(.inr (Nat.le_trans (below_size (belowP HB)) hn_))),Or.elim hk_ (fun hs_=>Or.elim hs_ (fun hs_=>hs_.1.2) (fun hs_=>hs_.1.2)) (fun hn_=>(Kd.freshB (blkP b0) k_ hn_)),Or.elim hk_ (fun hs_=>Or.elim hs_ (fun hs_=>hs_.2) (fun hs_=>hs_.2)) (fun hn_=>(Kd.freshB (blkP d5) k_ hn_))⟩)) (below_size (belowP HB))) (blk_below (blkP b0) hb) (blk_below (blkP d5) hb) (below_step (belowP HB) hb) ?_;clear i3 i4 l6 i5 i6 k5 b0 d5 HB;intro i3 i4 l6 i5 i6 k5 F6 b0 d5 HB;obtain ⟨n6,n7,N5⟩:=Kd.V_slice F6.out;subst N5;have A3:k6.cell? ⟨b1,0,none⟩=some (.int .i64 d3):=(blk_cell b0.out 0).trans rfl;have A4:k6.cell? ⟨b1,1,none⟩=some (.int .i64 d6):=(blk_cell b0.out 1).trans rfl;have A5:k6.cell? ⟨b1,2,none⟩=some (.int .i64 d7):=(blk_cell b0.out 2).trans rfl;have A6:k6.cell? ⟨b1,3,none⟩=some (.int .i64 d8):=(blk_cell b0.out 3).trans rfl;have A7:k6.cell? ⟨b1,4,none⟩=some (.int .i64 e0):=(blk_cell b0.out 4).trans rfl;have A9:k6.cell? ⟨b1,5,none⟩=some (.slice f4 d1.length f2):=(blk_cell b0.out 5).trans rfl;have B0:k6.cell? ⟨b1,6,none⟩=some (.slice f5 d2.length f3):=(blk_cell b0.out 6).trans rfl;have B2:k6.cell? ⟨b1,7,none⟩=some (.string e1):=(blk_cell b0.out 7).trans rfl;have C0:k6.cell? ⟨b1,8,none⟩=some (.slice m1 g9.length m2):=(blk_cell b0.out 8).trans rfl;have C1:k6.cell? ⟨b1,9,none⟩=some (.slice h7 f8.length h5):=(blk_cell b0.out 9).trans rfl;have C2:k6.cell? ⟨b1,10,none⟩=some (.slice g6 e2.length g4):=(blk_cell b0.out 10).trans rfl;have C3:k6.cell? ⟨b1,11,none⟩=some (.slice f7 d4.length f6):=(blk_cell b0.out 11).trans rfl;have C4:=blk_frozen b0.out 0;have C5:=blk_frozen b0.out 1;have C6:=blk_frozen b0.out 2;have C7:=blk_frozen b0.out 3;have C8:=blk_frozen b0.out 4;have C9:=blk_frozen b0.out 5;have D0:=blk_frozen b0.out 6;have D1:=blk_frozen b0.out 7;have D2:=blk_frozen b0.out 8;have D3:=blk_frozen b0.out 9;have D4:=blk_frozen b0.out 10;have D5:=blk_frozen b0.out 11))
   go_meet
   case rel=>exact ⟨_,(h8),(.slice n6 h8.length n7),H',⟨by first|omega|exact Nat.le_refl _⟩,⟨by (with_reducible repeat (first|apply Kd.V_alloc|apply Kd.V_drewN|apply Kd.V_drew));exact Kd.V_mono (Kd.V_far (p:=⟨b1,8,none⟩) (Kd.V_mono i3.out (fun k_ hk=>(⟨hk,hk.1.2⟩:_∧k_≠b1))) (fun _ hk=>hk.2) (.slice n6 h8.length n7)) (fun _ hk=>⟨hk.1.1.1,⟨hk.1.1.2,hk.1.2⟩⟩)⟩,⟨by (with_reducible repeat (first|apply Kd.V_alloc|apply Kd.V_drewN|apply Kd.V_drew));exact Kd.V_mono (Kd.V_far (p:=⟨b1,8,none⟩) (Kd.V_mono i4.out (fun k_ hk=>(⟨hk,hk.1.2⟩:_∧k_≠b1))) (fun _ hk=>hk.2) (.slice n6 h8.length n7)) (fun _ hk=>⟨hk.1.1.1,⟨hk.1.1.2,hk.1.2⟩⟩)⟩,⟨by (with_reducible repeat (first|apply Kd.V_alloc|apply Kd.V_drewN|apply Kd.V_drew));exact Kd.V_mono (Kd.V_far (p:=⟨b1,8,none⟩) (Kd.V_mono F6.out (fun k_ hk=>(⟨hk,hk.2.1⟩:_∧k_≠b1))) (fun _ hk=>hk.2) (.slice n6 h8.length n7)) (fun _ hk=>⟨hk.1.1,⟨hk.1.2.1,hk.1.2.2⟩⟩)⟩,⟨by (with_reducible repeat (first|apply Kd.V_alloc|apply Kd.V_drewN|apply Kd.V_drew));exact Kd.V_mono (Kd.V_far (p:=⟨b1,8,none⟩) (Kd.V_mono i5.out (fun k_ hk=>(⟨hk,hk.1.2⟩:_∧k_≠b1))) (fun _ hk=>hk.2) (.slice n6 h8.length n7)) (fun _ hk=>⟨hk.1.1.1,⟨hk.1.1.2,hk.1.2⟩⟩)⟩,⟨by (with_reducible repeat (first|apply Kd.V_alloc|apply Kd.V_drewN|apply Kd.V_drew));exact Kd.V_mono (Kd.V_far (p:=⟨b1,8,none⟩) (Kd.V_mono i6.out (fun k_ hk=>(⟨hk,hk.1.2⟩:_∧k_≠b1))) (fun _ hk=>hk.2) (.slice n6 h8.length n7)) (fun _ hk=>⟨hk.1.1.1,⟨hk.1.1.2,hk.1.2⟩⟩)⟩,⟨by (with_reducible repeat (first|apply Kd.V_alloc|apply Kd.V_drewN|apply Kd.V_drew));exact Kd.V_mono (Kd.V_far (p:=⟨b1,8,none⟩) (Kd.V_mono k5.out (fun k_ hk=>(⟨hk,hk.1.2⟩:_∧k_≠b1))) (fun _ hk=>hk.2) (.slice n6 h8.length n7)) (fun _ hk=>⟨hk.1.1.1,⟨hk.1.1.2,hk.1.2⟩⟩)⟩,⟨by refine blkQ ?_;refine blk_put (cs:=#[.int .i64 d3,.int .i64 d6,.int .i64 d7,.int .i64 d8,.int .i64 e0,.slice f4 d1.length f2,.slice f5 d2.length f3,.string e1,.slice m1 g9.length m2,.slice h7 f8.length h5,.slice g6 e2.length g4,.slice f7 d4.length f6]) ?_ 8 _ rfl;refine blkQ ?_;exact b0.out⟩,⟨by refine blkQ ?_;refine blk_far ?_ l7.out _;refine blkQ ?_;exact d5.out⟩,⟨by repeat (first|(with_reducible first|exact HB.out|apply below_alloc|apply pw_below_drewN|apply below_drew1|refine below_set ?_ m4.out|refine below_set ?_ m5.out)|exact HB.out)⟩⟩
  ·rw [if_neg c7] at H
   have m7:((e2.length:Int) == 0)=false:=beq_eq_false_iff_ne.mpr c7
   have s1:((e2.length:Int) != 0)=true:=bne_iff_ne.mpr c7
   have D6 : ¬ (e2 = []):=fun h_=>c7 (by rw [h_];rfl)
   (first|rw [m7] | (simp only [i64_w,i32_w];rw [m7])|skip)
   have H':=Aside0.mk H
   clear H
   go_wp2
   go_meet
   case rel=>exact ⟨_,(g9),(.slice m1 g9.length m2),H',⟨by first|omega|exact Nat.le_refl _⟩,⟨by (with_reducible repeat (first|apply Kd.V_alloc|apply Kd.V_drewN|apply Kd.V_drew));exact Kd.V_mono i3.out (fun _ hk=>⟨hk.1.1,⟨hk.1.2,hk.2⟩⟩)⟩,⟨by (with_reducible repeat (first|apply Kd.V_alloc|apply Kd.V_drewN|apply Kd.V_drew));exact Kd.V_mono i4.out (fun _ hk=>⟨hk.1.1,⟨hk.1.2,hk.2⟩⟩)⟩,⟨by (with_reducible repeat (first|apply Kd.V_alloc|apply Kd.V_drewN|apply Kd.V_drew));exact Kd.V_mono l6.out (fun _ hk=>⟨hk.1.1,⟨hk.1.2,hk.2⟩⟩)⟩,⟨by (with_reducible repeat (first|apply Kd.V_alloc|apply Kd.V_drewN|apply Kd.V_drew));exact Kd.V_mono i5.out (fun _ hk=>⟨hk.1.1,⟨hk.1.2,hk.2⟩⟩)⟩,⟨by (with_reducible repeat (first|apply Kd.V_alloc|apply Kd.V_drewN|apply Kd.V_drew));exact Kd.V_mono i6.out (fun _ hk=>⟨hk.1.1,⟨hk.1.2,hk.2⟩⟩)⟩,⟨by (with_reducible repeat (first|apply Kd.V_alloc|apply Kd.V_drewN|apply Kd.V_drew));exact Kd.V_mono k5.out (fun _ hk=>⟨hk.1.1,⟨hk.1.2,hk.2⟩⟩)⟩,⟨by refine blkQ ?_;exact b0.out⟩,⟨by refine blkQ ?_;exact d5.out⟩,⟨by repeat (first|(with_reducible first|exact HB.out|apply below_alloc|apply pw_below_drewN|apply below_drew1|refine below_set ?_ m4.out|refine below_set ?_ m5.out)|exact HB.out)⟩⟩
 case rest=>
  clear t3
  try clear c7
  try clear m7
  try clear s1
  try clear D6
  try clear w6
  try clear w7
  try clear x9
  try clear z0
  try clear w8
  try clear w9
  try clear x0
  try clear x1
  try clear x2
  try clear x3
  try clear x7
  try clear x8
  try clear A3
  try clear A4
  try clear C2
  try clear C3
  try clear A5
  try clear A6
  try clear A7
  try clear A9
  try clear B0
  try clear B2
  try clear C0
  try clear C1
  try clear t4
  try clear t5
  try clear u4
  try clear u5
  try clear t6
  try clear t7
  try clear t8
  try clear t9
  try clear u0
  try clear u1
  try clear u2
  try clear u3
  try clear z1
  try clear z2
  try clear A1
  try clear A2
  try clear z3
  try clear z4
  try clear z5
  try clear z6
  try clear z7
  try clear z8
  try clear z9
  try clear A0
  try clear C4
  try clear C5
  try clear D4
  try clear D5
  try clear C6
  try clear C7
  try clear C8
  try clear C9
  try clear D0
  try clear D1
  try clear D2
  try clear D3
  try clear u6
  try clear u7
  try clear v9
  try clear w2
  try clear u9
  try clear v0
  try clear v1
  try clear v2
  try clear v3
  try clear v6
  try clear v7
  try clear v8
  try clear b0
  try clear d5
  try clear HB
  obtain ⟨kq,f0,w5,HA,HJ1,e8,e9,e5,e6,e3,e7,b0,d5,HB⟩:=hcut
  cases kq with
  | zero=>exact absurd HA.out (by simp [nomination_settled.j0])
  | succ n8=>
   have H:=HA.out
   clear HA
   simp only [nomination_settled.j0] at H
   replace H:=Option.bind_eq_some_iff.mp H
   obtain ⟨b3,F7,H⟩:=H
   replace H:((nomination_next.f n8 d3 d6 d7 d8 e0 d1 d2 e1 f0 f8 e2 d4 b3).bind fun q2=>(nomination_settled.l0 n8 q2.1 q2.2 d3 d6 d7 d8 e0 d1 d2 e1 f0 f8 e2 d4 b3))=some (r1,r2,r3,r4,r5,r6,r7,r8,r9,r10,r11,r12):=H
   have N6:=Aside0.mk F7
   clear F7
   replace H:=Option.bind_eq_some_iff.mp H
   obtain ⟨⟨D7,D8⟩,F8,H⟩:=H
   replace H:(nomination_settled.l0 n8 D7 D8 d3 d6 d7 d8 e0 d1 d2 e1 f0 f8 e2 d4 b3)=some (r1,r2,r3,r4,r5,r6,r7,r8,r9,r10,r11,r12):=H
   have N7:=Aside0.mk F8
   clear F8
   have H':=Aside0.mk H
   clear H
   have Z4:=m6.out
   have Z5:=l7.out
   obtain ⟨F9,G0,G1,G2,G3,G4,G5,G6,G7,G8,G9,H0⟩:=cells12 b0.out
   obtain ⟨H1,H2,H3,H4,H5,H6,H7,H8,H9,I0,I1,I2⟩:=froz12 b0.out
   obtain ⟨g1,f9,N8⟩:=Kd.V_slice e5.out
   subst N8
   go_wp2_with (first|((with_reducible refine gate_callee (f:=24) rfl ?_);refine goesL_ (some 19) rfl rfl Try.func24 (by kernel_rfl) rfl #[.agg #[.int .i64 d3,.int .i64 d6,.int .i64 d7,.int .i64 d8,.int .i64 e0,.slice f4 d1.length f2,.slice f5 d2.length f3,.string e1,.slice g1 f0.length f9,.slice h7 f8.length h5,.slice g6 e2.length g4,.slice f7 d4.length f6]] rfl tz0 ?_;(with_reducible refine (nomination_view.calls n8 d3 d6 d7 d8 e0 _ _ d1 _ _ d2 e1 _ _ f0 _ _ f8 _ _ e2 (fun k_=>(((b5 k_∨b6 k_∨b7 k_∨b8 k_∨b9 k_∨c0 k_)∨w.heap.size≤k_)∧(k_≠b1∧k_≠b2))) _ _ d4 b3 _ ?side1 ?side2 ?side3 ?side4 ?side5 ?side6 ?side7 ?side8 ?side9 ?side10 ?side11 N6.out).mono ?_);(case side1=>exact Kd.C_q ((Kd.V_reads' e8.out).2.2));(case side2=>exact (Kd.V_reads' e8.out).2.1);(case side3=>exact Kd.C_q ((Kd.V_reads' e9.out).2.2));(case side4=>exact (Kd.V_reads' e9.out).2.1);(case side5=>exact Kd.C_q ((Kd.V_reads' e5.out).2.2));(case side6=>exact (Kd.V_reads' e5.out).2.1);(case side7=>exact Kd.C_q ((Kd.V_reads' e6.out).2.2));(case side8=>exact (Kd.V_reads' e6.out).2.1);(case side9=>exact Kd.C_q ((Kd.V_reads' e3.out).2.2));(case side10=>exact (Kd.V_reads' e3.out).2.1);(case side11=>exact e7.out);rintro e Z6 ⟨Z7,rfl,g3,hb⟩;refine ⟨_,rfl,?_⟩;refine ap10 (Kd.V_elder' (by (with_reducible repeat (first|apply Kd.V_alloc|apply Kd.V_drewN|apply Kd.V_drew));exact e8.out) (Kd.N_base g3) hb) (Kd.V_elder' (by (with_reducible repeat (first|apply Kd.V_alloc|apply Kd.V_drewN|apply Kd.V_drew));exact e9.out) (Kd.N_base g3) hb) (Kd.V_elder' (by (with_reducible repeat (first|apply Kd.V_alloc|apply Kd.V_drewN|apply Kd.V_drew));exact e5.out) (Kd.N_base g3) hb) (Kd.V_elder' (by (with_reducible repeat (first|apply Kd.V_alloc|apply Kd.V_drewN|apply Kd.V_drew));exact e6.out) (Kd.N_base g3) hb) (Kd.V_elder' (by (with_reducible repeat (first|apply Kd.V_alloc|apply Kd.V_drewN|apply Kd.V_drew));exact e3.out) (Kd.N_base g3) hb) (Kd.V_elder' (by (with_reducible repeat (first|apply Kd.V_alloc|apply Kd.V_drewN|apply Kd.V_drew));exact e7.out) (Kd.N_base g3) hb) (Kd.N_lower (Kd.N_mono (ok':=fun k_=>((b5 k_∨b6 k_∨b7 k_∨b8 k_∨b9 k_∨c0 k_)∨w.heap.size≤k_)∧k_≠b1∧k_≠b2) g3 (fun k_ hk_=>⟨Or.elim hk_ (fun hs_=>hs_.1) (fun hn_=>(.inr (Nat.le_trans (below_size (belowP HB)) hn_))),Or.elim hk_ (fun hs_=>hs_.2.1) (fun hn_=>(Kd.freshB (blkP b0) k_ hn_)),Or.elim hk_ (fun hs_=>hs_.2.2) (fun hn_=>(Kd.freshB (blkP d5) k_ hn_))⟩)) (below_size (belowP HB))) (blk_below (blkP b0) hb) (blk_below (blkP d5) hb) (below_step (belowP HB) hb) ?_;clear e8 e9 e5 e6 e3 e7 b0 d5 HB;intro e8 e9 e5 e6 e3 e7 l8 b0 d5 HB)|((with_reducible refine gate_dst (N:=3) rfl ?_);refine box_event ?hg (N:=3) ?hd (cs:=#[.slice none 0 0]) (t:=53) ?hr ?_;(case hd=>rfl);(case hg=>rfl);(case hr=>first|(go_simp;done)|(go_simp;rfl));intro b4 hg i7 hbox hb;refine ap17 (Kd.V_below (Kd.V_elderB (by (with_reducible repeat (first|apply Kd.V_alloc|apply Kd.V_drewN|apply Kd.V_drew));exact e8.out) b4 (Nat.le_of_eq hg.symm)) hb) (Kd.V_below (Kd.V_elderB (by (with_reducible repeat (first|apply Kd.V_alloc|apply Kd.V_drewN|apply Kd.V_drew));exact e9.out) b4 (Nat.le_of_eq hg.symm)) hb) (Kd.V_below (Kd.V_elderB (by (with_reducible repeat (first|apply Kd.V_alloc|apply Kd.V_drewN|apply Kd.V_drew));exact e5.out) b4 (Nat.le_of_eq hg.symm)) hb) (Kd.V_below (Kd.V_elderB (by (with_reducible repeat (first|apply Kd.V_alloc|apply Kd.V_drewN|apply Kd.V_drew));exact e6.out) b4 (Nat.le_of_eq hg.symm)) hb) (Kd.V_below (Kd.V_elderB (by (with_reducible repeat (first|apply Kd.V_alloc|apply Kd.V_drewN|apply Kd.V_drew));exact e3.out) b4 (Nat.le_of_eq hg.symm)) hb) (Kd.V_below (Kd.V_elderB (by (with_reducible repeat (first|apply Kd.V_alloc|apply Kd.V_drewN|apply Kd.V_drew));exact e7.out) b4 (Nat.le_of_eq hg.symm)) hb) (Kd.N_below (Kd.N_elderB (by (with_reducible repeat (first|apply Kd.N_alloc|apply Kd.N_drewN|apply Kd.N_drew));exact l8.out) b4 (Nat.le_of_eq hg.symm)) hb) (blk_below (blkP b0) hb) (blk_below (blkP d5) hb) (below_step (belowP HB) hb) (hbox) ((by rw [hg];exact (below_size (belowP HB)):w.heap.size≤b4)) ((by rw [hg];exact (below_size (belowP HB)):w.heap.size≤b4)) ((by rw [hg];exact Nat.ne_of_lt (blk_lt (blkP b0)):b1≠b4)) ((by rw [hg];exact Nat.ne_of_gt (blk_lt (blkP b0)):b4≠b1)) ((by rw [hg];exact Nat.ne_of_lt (blk_lt (blkP d5)):b2≠b4)) ((by rw [hg];exact Nat.ne_of_gt (blk_lt (blkP d5)):b4≠b2)) ?_;clear e8 e9 e5 e6 e3 e7 l8 b0 d5 HB;intro e8 e9 e5 e6 e3 e7 l8 b0 d5 HB e4 GW480 o6 n9 m8 o7 q8;clear hb hbox hg;obtain ⟨d0,c1,N9⟩:=Kd.N_slice l8.out;subst N9;have Z8:=m8.out;have Z9:=n9.out;have aA:=q8.out;have aC:=o7.out;have I3:i7.cell? ⟨b4,0,none⟩=some (.slice none 0 0):=(blk_cell e4.out 0).trans rfl;have I4:=blk_frozen e4.out 0;have I5:i7.cell? ⟨b1,0,none⟩=some (.int .i64 d3):=(blk_cell b0.out 0).trans rfl;have I6:i7.cell? ⟨b1,1,none⟩=some (.int .i64 d6):=(blk_cell b0.out 1).trans rfl;have I7:i7.cell? ⟨b1,2,none⟩=some (.int .i64 d7):=(blk_cell b0.out 2).trans rfl;have I8:i7.cell? ⟨b1,3,none⟩=some (.int .i64 d8):=(blk_cell b0.out 3).trans rfl;have I9:i7.cell? ⟨b1,4,none⟩=some (.int .i64 e0):=(blk_cell b0.out 4).trans rfl;have J0:i7.cell? ⟨b1,5,none⟩=some (.slice f4 d1.length f2):=(blk_cell b0.out 5).trans rfl;have J1:i7.cell? ⟨b1,6,none⟩=some (.slice f5 d2.length f3):=(blk_cell b0.out 6).trans rfl;have J2:i7.cell? ⟨b1,7,none⟩=some (.string e1):=(blk_cell b0.out 7).trans rfl;have J3:i7.cell? ⟨b1,8,none⟩=some (.slice g1 f0.length f9):=(blk_cell b0.out 8).trans rfl;have J4:i7.cell? ⟨b1,9,none⟩=some (.slice h7 f8.length h5):=(blk_cell b0.out 9).trans rfl;have J5:i7.cell? ⟨b1,10,none⟩=some (.slice g6 e2.length g4):=(blk_cell b0.out 10).trans rfl;have J6:i7.cell? ⟨b1,11,none⟩=some (.slice f7 d4.length f6):=(blk_cell b0.out 11).trans rfl;have J7:=blk_frozen b0.out 0;have J8:=blk_frozen b0.out 1;have J9:=blk_frozen b0.out 2;have K0:=blk_frozen b0.out 3;have K1:=blk_frozen b0.out 4;have K2:=blk_frozen b0.out 5;have K3:=blk_frozen b0.out 6;have K4:=blk_frozen b0.out 7;have K5:=blk_frozen b0.out 8;have K6:=blk_frozen b0.out 9;have K7:=blk_frozen b0.out 10;have K8:=blk_frozen b0.out 11)|((with_reducible refine gate_callee (f:=25) rfl ?_);refine goesL_ (some 23) rfl rfl Try.func25 (by kernel_rfl) rfl #[.agg #[.int .i64 d3,.int .i64 d6,.int .i64 d7,.int .i64 d8,.int .i64 e0,.slice f4 d1.length f2,.slice f5 d2.length f3,.string e1,.slice g1 f0.length f9,.slice h7 f8.length h5,.slice g6 e2.length g4,.slice f7 d4.length f6],.agg #[.slice d0 b3.length c1]] rfl tz0 ?_;(with_reducible refine (nomination_next.calls n8 d3 d6 d7 d8 e0 _ _ d1 _ _ d2 e1 _ _ f0 _ _ f8 _ _ e2 _ _ d4 _ _ b3 D7 D8 _ ?side1 ?side2 ?side3 ?side4 ?side5 ?side6 ?side7 ?side8 ?side9 ?side10 ?side11 ?side12 ?side13 ?side14 N7.out).mono ?_);(case side1=>refine (Kd.V_reads' (e:=3) (base:=w.heap.size) (ok:=fun k_=>(((((b5 k_∨b6 k_∨b7 k_∨b8 k_∨b9 k_∨c0 k_)∨w.heap.size≤k_)∧(k_≠b1∧k_≠b2))∧some k_≠(.slice d0 b3.length c1:Value).ownBlock)∧k_≠b4)) (n:=d1.length) (c:=f2) ?_).2.2;exact (by (with_reducible repeat (first|apply Kd.V_alloc|apply Kd.V_drewN|apply Kd.V_drew));exact (Kd.V_mono (Kd.V_far (p:=⟨b4,0,none⟩) (Kd.V_mono e8.out (fun k_ hk=>(⟨hk,hk.2⟩:_∧k_≠b4))) (fun _ hk=>hk.2) (.slice d0 b3.length c1)) (fun _ h_=>h_.1))));(case side2=>exact (Kd.V_reads' e8.out).2.1);(case side3=>refine (Kd.V_reads' (e:=30) (base:=w.heap.size) (ok:=fun k_=>(((((b5 k_∨b6 k_∨b7 k_∨b8 k_∨b9 k_∨c0 k_)∨w.heap.size≤k_)∧(k_≠b1∧k_≠b2))∧some k_≠(.slice d0 b3.length c1:Value).ownBlock)∧k_≠b4)) (n:=d2.length) (c:=f3) ?_).2.2;exact (by (with_reducible repeat (first|apply Kd.V_alloc|apply Kd.V_drewN|apply Kd.V_drew));exact (Kd.V_mono (Kd.V_far (p:=⟨b4,0,none⟩) (Kd.V_mono e9.out (fun k_ hk=>(⟨hk,hk.2⟩:_∧k_≠b4))) (fun _ hk=>hk.2) (.slice d0 b3.length c1)) (fun _ h_=>h_.1))));(case side4=>exact (Kd.V_reads' e9.out).2.1);(case side5=>refine (Kd.V_reads' (e:=9) (base:=w.heap.size) (ok:=fun k_=>(((((b5 k_∨b6 k_∨b7 k_∨b8 k_∨b9 k_∨c0 k_)∨w.heap.size≤k_)∧(k_≠b1∧k_≠b2))∧some k_≠(.slice d0 b3.length c1:Value).ownBlock)∧k_≠b4)) (n:=f0.length) (c:=f9) ?_).2.2;exact (by (with_reducible repeat (first|apply Kd.V_alloc|apply Kd.V_drewN|apply Kd.V_drew));exact (Kd.V_mono (Kd.V_far (p:=⟨b4,0,none⟩) (Kd.V_mono e5.out (fun k_ hk=>(⟨hk,hk.2⟩:_∧k_≠b4))) (fun _ hk=>hk.2) (.slice d0 b3.length c1)) (fun _ h_=>h_.1))));(case side6=>exact (Kd.V_reads' e5.out).2.1);(case side7=>refine (Kd.V_reads' (e:=9) (base:=w.heap.size) (ok:=fun k_=>(((((b5 k_∨b6 k_∨b7 k_∨b8 k_∨b9 k_∨c0 k_)∨w.heap.size≤k_)∧(k_≠b1∧k_≠b2))∧some k_≠(.slice d0 b3.length c1:Value).ownBlock)∧k_≠b4)) (n:=f8.length) (c:=h5) ?_).2.2;exact (by (with_reducible repeat (first|apply Kd.V_alloc|apply Kd.V_drewN|apply Kd.V_drew));exact (Kd.V_mono (Kd.V_far (p:=⟨b4,0,none⟩) (Kd.V_mono e6.out (fun k_ hk=>(⟨hk,hk.2⟩:_∧k_≠b4))) (fun _ hk=>hk.2) (.slice d0 b3.length c1)) (fun _ h_=>h_.1))));(case side8=>exact (Kd.V_reads' e6.out).2.1);(case side9=>refine (Kd.V_reads' (e:=9) (base:=w.heap.size) (ok:=fun k_=>(((((b5 k_∨b6 k_∨b7 k_∨b8 k_∨b9 k_∨c0 k_)∨w.heap.size≤k_)∧(k_≠b1∧k_≠b2))∧some k_≠(.slice d0 b3.length c1:Value).ownBlock)∧k_≠b4)) (n:=e2.length) (c:=g4) ?_).2.2;exact (by (with_reducible repeat (first|apply Kd.V_alloc|apply Kd.V_drewN|apply Kd.V_drew));exact (Kd.V_mono (Kd.V_far (p:=⟨b4,0,none⟩) (Kd.V_mono e3.out (fun k_ hk=>(⟨hk,hk.2⟩:_∧k_≠b4))) (fun _ hk=>hk.2) (.slice d0 b3.length c1)) (fun _ h_=>h_.1))));(case side10=>exact (Kd.V_reads' e3.out).2.1);(case side11=>refine (Kd.V_reads' (e:=48) (base:=w.heap.size) (ok:=fun k_=>(((((b5 k_∨b6 k_∨b7 k_∨b8 k_∨b9 k_∨c0 k_)∨w.heap.size≤k_)∧(k_≠b1∧k_≠b2))∧some k_≠(.slice d0 b3.length c1:Value).ownBlock)∧k_≠b4)) (n:=d4.length) (c:=f6) ?_).2.2;exact (by (with_reducible repeat (first|apply Kd.V_alloc|apply Kd.V_drewN|apply Kd.V_drew));exact (Kd.V_mono (Kd.V_far (p:=⟨b4,0,none⟩) (Kd.V_mono e7.out (fun k_ hk=>(⟨hk,hk.2⟩:_∧k_≠b4))) (fun _ hk=>hk.2) (.slice d0 b3.length c1)) (fun _ h_=>h_.1))));(case side12=>exact (Kd.V_reads' e7.out).2.1);(case side13=>refine (Kd.N_reads' (e:=87) (base:=w.heap.size) (ok:=fun k_=>((((b5 k_∨b6 k_∨b7 k_∨b8 k_∨b9 k_∨c0 k_)∨w.heap.size≤k_)∧(k_≠b1∧k_≠b2))∧k_≠b4)) (n:=b3.length) (c:=c1) ?_).2.2;exact (by (with_reducible repeat (first|apply Kd.N_alloc|apply Kd.N_drewN|apply Kd.N_drew));exact (Kd.N_mono (Kd.N_far (p:=⟨b4,0,none⟩) (Kd.N_mono l8.out (fun k_ hk=>(⟨hk,hk.2⟩:_∧k_≠b4))) (fun _ hk=>hk.2) (.slice d0 b3.length c1)) (fun _ h_=>h_.1))));(case side14=>exact (Kd.N_reads' l8.out).2.1);rintro e aD ⟨rfl,hb⟩;refine ⟨_,rfl,?_⟩;refine ap11 (Kd.V_below (by (with_reducible repeat (first|apply Kd.V_alloc|apply Kd.V_drewN|apply Kd.V_drew));exact (Kd.V_mono (Kd.V_far (p:=⟨b4,0,none⟩) (Kd.V_mono e8.out (fun k_ hk=>(⟨hk,hk.2⟩:_∧k_≠b4))) (fun _ hk=>hk.2) (.slice d0 b3.length c1)) (fun _ h_=>h_.1))) hb) (Kd.V_below (by (with_reducible repeat (first|apply Kd.V_alloc|apply Kd.V_drewN|apply Kd.V_drew));exact (Kd.V_mono (Kd.V_far (p:=⟨b4,0,none⟩) (Kd.V_mono e9.out (fun k_ hk=>(⟨hk,hk.2⟩:_∧k_≠b4))) (fun _ hk=>hk.2) (.slice d0 b3.length c1)) (fun _ h_=>h_.1))) hb) (Kd.V_below (by (with_reducible repeat (first|apply Kd.V_alloc|apply Kd.V_drewN|apply Kd.V_drew));exact (Kd.V_mono (Kd.V_far (p:=⟨b4,0,none⟩) (Kd.V_mono e5.out (fun k_ hk=>(⟨hk,hk.2⟩:_∧k_≠b4))) (fun _ hk=>hk.2) (.slice d0 b3.length c1)) (fun _ h_=>h_.1))) hb) (Kd.V_below (by (with_reducible repeat (first|apply Kd.V_alloc|apply Kd.V_drewN|apply Kd.V_drew));exact (Kd.V_mono (Kd.V_far (p:=⟨b4,0,none⟩) (Kd.V_mono e6.out (fun k_ hk=>(⟨hk,hk.2⟩:_∧k_≠b4))) (fun _ hk=>hk.2) (.slice d0 b3.length c1)) (fun _ h_=>h_.1))) hb) (Kd.V_below (by (with_reducible repeat (first|apply Kd.V_alloc|apply Kd.V_drewN|apply Kd.V_drew));exact (Kd.V_mono (Kd.V_far (p:=⟨b4,0,none⟩) (Kd.V_mono e3.out (fun k_ hk=>(⟨hk,hk.2⟩:_∧k_≠b4))) (fun _ hk=>hk.2) (.slice d0 b3.length c1)) (fun _ h_=>h_.1))) hb) (Kd.V_below (by (with_reducible repeat (first|apply Kd.V_alloc|apply Kd.V_drewN|apply Kd.V_drew));exact (Kd.V_mono (Kd.V_far (p:=⟨b4,0,none⟩) (Kd.V_mono e7.out (fun k_ hk=>(⟨hk,hk.2⟩:_∧k_≠b4))) (fun _ hk=>hk.2) (.slice d0 b3.length c1)) (fun _ h_=>h_.1))) hb) (Kd.N_below (by (with_reducible repeat (first|apply Kd.N_alloc|apply Kd.N_drewN|apply Kd.N_drew));exact (Kd.N_mono (Kd.N_far (p:=⟨b4,0,none⟩) (Kd.N_mono l8.out (fun k_ hk=>(⟨hk,hk.2⟩:_∧k_≠b4))) (fun _ hk=>hk.2) (.slice d0 b3.length c1)) (fun _ h_=>h_.1))) hb) (blk_below (g:=b1) (o:=.cells #[.int .i64 d3,.int .i64 d6,.int .i64 d7,.int .i64 d8,.int .i64 e0,.slice f4 d1.length f2,.slice f5 d2.length f3,.string e1,.slice g1 f0.length f9,.slice h7 f8.length h5,.slice g6 e2.length g4,.slice f7 d4.length f6] 33 (0,0)) (by refine blkQ ?_;refine blk_far ?_ n9.out _;refine blkQ ?_;exact b0.out) hb) (blk_below (g:=b2) (o:=.cells #[.int .i64 0,.int .i64 0,.int .i64 0,.int .i64 0,.int .i64 0,.slice none 0 0,.slice none 0 0,.string (⟨#[]⟩:ByteArray),.slice none 0 0,.slice none 0 0,.slice none 0 0,.slice none 0 0] 33 (0,0)) (by refine blkQ ?_;refine blk_far ?_ o7.out _;refine blkQ ?_;exact d5.out) hb) (blk_below (g:=b4) (o:=.cells #[.slice d0 b3.length c1] 53 (0,0)) (by refine blkQ ?_;refine blk_put (cs:=#[.slice none 0 0]) ?_ 0 _ rfl;refine blkQ ?_;exact e4.out) hb) (below_step (belowP HB) hb) ?_;clear e8 e9 e5 e6 e3 e7 l8 b0 d5 e4 HB;intro e8 e9 e5 e6 e3 e7 l8 b0 d5 e4 HB))
   go_loopg [4,5] n8 (fun kq v4 v5 w'=>∃ (q9:ByteArray) (s2:Bool) (d9:List ByteArray) (s3:Value),v4 = .string q9∧v5 = .bool s2∧Aside0 (nomination_settled.l0 kq q9 s2 d3 d6 d7 d8 e0 d1 d2 e1 f0 d9 e2 d4 b3=some (r1,r2,r3,r4,r5,r6,r7,r8,r9,r10,r11,r12))∧Aside0 (kq≤n8)∧Aside0 (Kd.V (Kd.int .i64) 3 w' w.heap.size (fun k_=>((b5 k_∨b6 k_∨b7 k_∨b8 k_∨b9 k_∨c0 k_)∨w.heap.size≤k_)∧some k_≠((.slice d0 b3.length c1):Value).ownBlock∧k_≠b1∧k_≠b2∧k_≠b4) (.slice f4 d1.length f2) d1)∧Aside0 (Kd.V k30 30 w' w.heap.size (fun k_=>((b5 k_∨b6 k_∨b7 k_∨b8 k_∨b9 k_∨c0 k_)∨w.heap.size≤k_)∧some k_≠((.slice d0 b3.length c1):Value).ownBlock∧k_≠b1∧k_≠b2∧k_≠b4) (.slice f5 d2.length f3) d2)∧Aside0 (Kd.V Kd.string 9 w' w.heap.size (fun k_=>((b5 k_∨b6 k_∨b7 k_∨b8 k_∨b9 k_∨c0 k_)∨w.heap.size≤k_)∧some k_≠((.slice d0 b3.length c1):Value).ownBlock∧k_≠b1∧k_≠b2∧k_≠b4) (.slice g1 f0.length f9) f0)∧Aside0 (Kd.V Kd.string 9 w' w.heap.size (fun k_=>((b5 k_∨b6 k_∨b7 k_∨b8 k_∨b9 k_∨c0 k_)∨w.heap.size≤k_)∧some k_≠((.slice d0 b3.length c1):Value).ownBlock∧k_≠b1∧k_≠b2∧k_≠b4) s3 d9)∧Aside0 (Kd.V Kd.string 9 w' w.heap.size (fun k_=>((b5 k_∨b6 k_∨b7 k_∨b8 k_∨b9 k_∨c0 k_)∨w.heap.size≤k_)∧some k_≠((.slice d0 b3.length c1):Value).ownBlock∧k_≠b1∧k_≠b2∧k_≠b4) (.slice g6 e2.length g4) e2)∧Aside0 (Kd.V k48 48 w' w.heap.size (fun k_=>((b5 k_∨b6 k_∨b7 k_∨b8 k_∨b9 k_∨c0 k_)∨w.heap.size≤k_)∧some k_≠((.slice d0 b3.length c1):Value).ownBlock∧k_≠b1∧k_≠b2∧k_≠b4) (.slice f7 d4.length f6) d4)∧Aside0 (Kd.N k87 87 w' w.heap.size (fun k_=>((b5 k_∨b6 k_∨b7 k_∨b8 k_∨b9 k_∨c0 k_)∨w.heap.size≤k_)∧k_≠b1∧k_≠b2∧k_≠b4) (.slice d0 b3.length c1) b3)∧Aside0 (w'.heap[b1]? = some (.cells #[.int .i64 d3,.int .i64 d6,.int .i64 d7,.int .i64 d8,.int .i64 e0,(.slice f4 d1.length f2),(.slice f5 d2.length f3),.string e1,(.slice g1 f0.length f9),s3,(.slice g6 e2.length g4),(.slice f7 d4.length f6)] 33 (0,0)))∧Aside0 (w'.heap[b2]? = some (.cells #[.int .i64 0,.int .i64 0,.int .i64 0,.int .i64 0,.int .i64 0,(.slice none 0 0),(.slice none 0 0),.string (⟨#[]⟩:ByteArray),(.slice none 0 0),(.slice none 0 0),(.slice none 0 0),(.slice none 0 0)] 33 (0,0)))∧Aside0 (w'.heap[b4]? = some (.cells #[(.slice d0 b3.length c1)] 53 (0,0)))∧Aside0 (Below w.heap.size w w'))
   case atStart=>exact ⟨(D7),(D8),(f8),(.slice h7 f8.length h5),tz3,tz3,H',⟨Nat.le_refl _⟩,⟨by (with_reducible repeat (first|apply Kd.V_alloc|apply Kd.V_drewN|apply Kd.V_drew));exact Kd.V_mono e8.out (fun _ hk=>⟨hk.1.1.1,⟨hk.1.2,⟨hk.1.1.2.1,⟨hk.1.1.2.2,hk.2⟩⟩⟩⟩)⟩,⟨by (with_reducible repeat (first|apply Kd.V_alloc|apply Kd.V_drewN|apply Kd.V_drew));exact Kd.V_mono e9.out (fun _ hk=>⟨hk.1.1.1,⟨hk.1.2,⟨hk.1.1.2.1,⟨hk.1.1.2.2,hk.2⟩⟩⟩⟩)⟩,⟨by (with_reducible repeat (first|apply Kd.V_alloc|apply Kd.V_drewN|apply Kd.V_drew));exact Kd.V_mono e5.out (fun _ hk=>⟨hk.1.1.1,⟨hk.1.2,⟨hk.1.1.2.1,⟨hk.1.1.2.2,hk.2⟩⟩⟩⟩)⟩,⟨by (with_reducible repeat (first|apply Kd.V_alloc|apply Kd.V_drewN|apply Kd.V_drew));exact Kd.V_mono e6.out (fun _ hk=>⟨hk.1.1.1,⟨hk.1.2,⟨hk.1.1.2.1,⟨hk.1.1.2.2,hk.2⟩⟩⟩⟩)⟩,⟨by (with_reducible repeat (first|apply Kd.V_alloc|apply Kd.V_drewN|apply Kd.V_drew));exact Kd.V_mono e3.out (fun _ hk=>⟨hk.1.1.1,⟨hk.1.2,⟨hk.1.1.2.1,⟨hk.1.1.2.2,hk.2⟩⟩⟩⟩)⟩,⟨by (with_reducible repeat (first|apply Kd.V_alloc|apply Kd.V_drewN|apply Kd.V_drew));exact Kd.V_mono e7.out (fun _ hk=>⟨hk.1.1.1,⟨hk.1.2,⟨hk.1.1.2.1,⟨hk.1.1.2.2,hk.2⟩⟩⟩⟩)⟩,⟨by (with_reducible repeat (first|apply Kd.N_alloc|apply Kd.N_drewN|apply Kd.N_drew));exact Kd.N_mono l8.out (fun _ hk=>⟨hk.1.1,⟨hk.1.2.1,⟨hk.1.2.2,hk.2⟩⟩⟩)⟩,⟨by refine blkQ ?_;exact b0.out⟩,⟨by refine blkQ ?_;exact d5.out⟩,⟨by refine blkQ ?_;exact e4.out⟩,⟨by repeat (first|(with_reducible first|exact HB.out|apply below_alloc|apply pw_below_drewN|apply below_drew1|refine below_set ?_ m4.out|refine below_set ?_ m5.out|refine below_set ?_ o6.out)|exact HB.out)⟩⟩
   case round=>
    clear H'
    try clear c7
    try clear m7
    try clear s1
    try clear D6
    try clear w6
    try clear w7
    try clear x9
    try clear z0
    try clear w8
    try clear w9
    try clear x0
    try clear x1
    try clear x2
    try clear x3
    try clear x7
    try clear x8
    try clear A3
    try clear A4
    try clear C2
    try clear C3
    try clear A5
    try clear A6
    try clear A7
    try clear A9
    try clear B0
    try clear B2
    try clear C0
    try clear C1
    try clear F9
    try clear G0
    try clear G9
    try clear H0
    try clear G1
    try clear G2
    try clear G3
    try clear G4
    try clear G5
    try clear G6
    try clear G7
    try clear G8
    try clear I3
    try clear I5
    try clear I6
    try clear J5
    try clear J6
    try clear I7
    try clear I8
    try clear I9
    try clear J0
    try clear J1
    try clear J2
    try clear J3
    try clear J4
    try clear t4
    try clear t5
    try clear u4
    try clear u5
    try clear t6
    try clear t7
    try clear t8
    try clear t9
    try clear u0
    try clear u1
    try clear u2
    try clear u3
    try clear z1
    try clear z2
    try clear A1
    try clear A2
    try clear z3
    try clear z4
    try clear z5
    try clear z6
    try clear z7
    try clear z8
    try clear z9
    try clear A0
    try clear C4
    try clear C5
    try clear D4
    try clear D5
    try clear C6
    try clear C7
    try clear C8
    try clear C9
    try clear D0
    try clear D1
    try clear D2
    try clear D3
    try clear H1
    try clear H2
    try clear I1
    try clear I2
    try clear H3
    try clear H4
    try clear H5
    try clear H6
    try clear H7
    try clear H8
    try clear H9
    try clear I0
    try clear I4
    try clear J7
    try clear J8
    try clear K7
    try clear K8
    try clear J9
    try clear K0
    try clear K1
    try clear K2
    try clear K3
    try clear K4
    try clear K5
    try clear K6
    try clear u6
    try clear u7
    try clear v9
    try clear w2
    try clear u9
    try clear v0
    try clear v1
    try clear v2
    try clear v3
    try clear v6
    try clear v7
    try clear v8
    try clear e8
    try clear e9
    try clear e5
    try clear e6
    try clear e3
    try clear e7
    try clear b0
    try clear d5
    try clear e4
    try clear HB
    obtain ⟨q9,s2,d9,s3,rfl,rfl,HA,o8,e8,e9,e5,e6,e3,e7,f1,b0,d5,e4,HB⟩:=hrel
    cases gk with
    | zero=>exact absurd HA.out (by simp [nomination_settled.l0])
    | succ k2=>
     have H:=HA.out
     clear HA
     simp only [nomination_settled.l0] at H
     by_cases r0:s2=true
     ·subst r0
      rw [if_pos rfl] at H
      replace H:=Option.bind_eq_some_iff.mp H
      obtain ⟨g2,K9,H⟩:=H
      replace H:((nomination_next.f k2 d3 d6 d7 d8 e0 d1 d2 e1 f0 g2 e2 d4 b3).bind fun q3=>(nomination_settled.l0 k2 q3.1 q3.2 d3 d6 d7 d8 e0 d1 d2 e1 f0 g2 e2 d4 b3))=some (r1,r2,r3,r4,r5,r6,r7,r8,r9,r10,r11,r12):=H
      have O0:=Aside0.mk K9
      clear K9
      replace H:=Option.bind_eq_some_iff.mp H
      obtain ⟨⟨D9,E0⟩,L0,H⟩:=H
      replace H:(nomination_settled.l0 k2 D9 E0 d3 d6 d7 d8 e0 d1 d2 e1 f0 g2 e2 d4 b3)=some (r1,r2,r3,r4,r5,r6,r7,r8,r9,r10,r11,r12):=H
      have O1:=Aside0.mk L0
      clear L0
      have H':=Aside0.mk H
      clear H
      have aE:=m6.out
      have aG:=l7.out
      have aH:=n9.out
      have aI:=m8.out
      obtain ⟨O2,O3,O4,O5,O6,O7,O8,O9,P0,P1,P2,P3⟩:=cells12 b0.out
      obtain ⟨P4,P5,P6,P7,P8,P9,Q0,Q1,Q2,Q3,Q4,Q5⟩:=froz12 b0.out
      obtain ⟨E1,E2,Q6⟩:=Kd.V_slice e6.out
      subst Q6
      go_wp2_with (first|((with_reducible refine gate_callee (f:=26) rfl ?_);refine goesL_ (some 36) rfl rfl Try.func26 (by kernel_rfl) rfl #[.slice E1 d9.length E2,.string q9] rfl tz0 ?_;(with_reducible refine (nomination_put.calls k2 (fun k_=>(((b5 k_∨b6 k_∨b7 k_∨b8 k_∨b9 k_∨c0 k_)∨w.heap.size≤k_)∧(some k_≠(.slice d0 b3.length c1:Value).ownBlock∧(k_≠b1∧(k_≠b2∧k_≠b4))))) _ _ d9 q9 g2 _ ?side1 O0.out).mono ?_);(case side1=>exact e6.out);rintro e i8 ⟨aJ,rfl,g3,hb⟩;refine ⟨_,rfl,?_⟩;refine ap12 (Kd.V_below (by (with_reducible repeat (first|apply Kd.V_alloc|apply Kd.V_drewN|apply Kd.V_drew));exact e8.out) hb) (Kd.V_below (by (with_reducible repeat (first|apply Kd.V_alloc|apply Kd.V_drewN|apply Kd.V_drew));exact e9.out) hb) (Kd.V_below (by (with_reducible repeat (first|apply Kd.V_alloc|apply Kd.V_drewN|apply Kd.V_drew));exact e5.out) hb) (Kd.V_below (by (with_reducible repeat (first|apply Kd.V_alloc|apply Kd.V_drewN|apply Kd.V_drew));exact e6.out) hb) (Kd.V_below (by (with_reducible repeat (first|apply Kd.V_alloc|apply Kd.V_drewN|apply Kd.V_drew));exact e3.out) hb) (Kd.V_below (by (with_reducible repeat (first|apply Kd.V_alloc|apply Kd.V_drewN|apply Kd.V_drew));exact e7.out) hb) (Kd.N_below (by (with_reducible repeat (first|apply Kd.N_alloc|apply Kd.N_drewN|apply Kd.N_drew));exact f1.out) hb) (Kd.V_lower (Kd.V_mono (ok':=fun k_=>((b5 k_∨b6 k_∨b7 k_∨b8 k_∨b9 k_∨c0 k_)∨w.heap.size≤k_)∧some k_≠(.slice d0 b3.length c1:Value).ownBlock∧k_≠b1∧k_≠b2∧k_≠b4) g3 (fun k_ hk_=>⟨Or.elim hk_ (fun hs_=>hs_.1) (fun hn_=>(.inr (Nat.le_trans (below_size (belowP HB)) hn_))),Or.elim hk_ (fun hs_=>hs_.2.1) (fun hn_=>(Kd.fresh' (Kd.N_lt (by (with_reducible repeat (first|apply Kd.N_alloc|apply Kd.N_drewN|apply Kd.N_drew));exact f1.out)) k_ hn_)),Or.elim hk_ (fun hs_=>hs_.2.2.1) (fun hn_=>(Kd.freshB (blkP b0) k_ hn_)),Or.elim hk_ (fun hs_=>hs_.2.2.2.1) (fun hn_=>(Kd.freshB (blkP d5) k_ hn_)),Or.elim hk_ (fun hs_=>hs_.2.2.2.2) (fun hn_=>(Kd.freshB (blkP e4) k_ hn_))⟩)) (below_size (belowP HB))) (blk_below (blkP b0) hb) (blk_below (blkP d5) hb) (blk_below (blkP e4) hb) (below_step (belowP HB) hb) ?_;clear e8 e9 e5 e6 e3 e7 f1 b0 d5 e4 HB;intro e8 e9 e5 e6 e3 e7 f1 o0 b0 d5 e4 HB;obtain ⟨h2,h0,Q7⟩:=Kd.V_slice o0.out;subst Q7;have Q8:i8.cell? ⟨b1,0,none⟩=some (.int .i64 d3):=(blk_cell b0.out 0).trans rfl;have Q9:i8.cell? ⟨b1,1,none⟩=some (.int .i64 d6):=(blk_cell b0.out 1).trans rfl;have R0:i8.cell? ⟨b1,2,none⟩=some (.int .i64 d7):=(blk_cell b0.out 2).trans rfl;have R1:i8.cell? ⟨b1,3,none⟩=some (.int .i64 d8):=(blk_cell b0.out 3).trans rfl;have R2:i8.cell? ⟨b1,4,none⟩=some (.int .i64 e0):=(blk_cell b0.out 4).trans rfl;have R3:i8.cell? ⟨b1,5,none⟩=some (.slice f4 d1.length f2):=(blk_cell b0.out 5).trans rfl;have R4:i8.cell? ⟨b1,6,none⟩=some (.slice f5 d2.length f3):=(blk_cell b0.out 6).trans rfl;have R5:i8.cell? ⟨b1,7,none⟩=some (.string e1):=(blk_cell b0.out 7).trans rfl;have R6:i8.cell? ⟨b1,8,none⟩=some (.slice g1 f0.length f9):=(blk_cell b0.out 8).trans rfl;have R7:i8.cell? ⟨b1,9,none⟩=some (.slice E1 d9.length E2):=(blk_cell b0.out 9).trans rfl;have R8:i8.cell? ⟨b1,10,none⟩=some (.slice g6 e2.length g4):=(blk_cell b0.out 10).trans rfl;have R9:i8.cell? ⟨b1,11,none⟩=some (.slice f7 d4.length f6):=(blk_cell b0.out 11).trans rfl;have S0:=blk_frozen b0.out 0;have S1:=blk_frozen b0.out 1;have S2:=blk_frozen b0.out 2;have S3:=blk_frozen b0.out 3;have S4:=blk_frozen b0.out 4;have S5:=blk_frozen b0.out 5;have S6:=blk_frozen b0.out 6;have S7:=blk_frozen b0.out 7;have S8:=blk_frozen b0.out 8;have S9:=blk_frozen b0.out 9;have T0:=blk_frozen b0.out 10;have T2:=blk_frozen b0.out 11;have aK:=q8.out;have aM:=o7.out;have U0:i8.cell? ⟨b4,0,none⟩=some (.slice d0 b3.length c1):=(blk_cell e4.out 0).trans rfl;have U1:=blk_frozen e4.out 0)|((with_reducible refine gate_callee (f:=25) rfl ?_);refine goesL_ (some 30) rfl rfl Try.func25 (by kernel_rfl) rfl #[.agg #[.int .i64 d3,.int .i64 d6,.int .i64 d7,.int .i64 d8,.int .i64 e0,.slice f4 d1.length f2,.slice f5 d2.length f3,.string e1,.slice g1 f0.length f9,.slice h2 g2.length h0,.slice g6 e2.length g4,.slice f7 d4.length f6],.agg #[.slice d0 b3.length c1]] rfl tz0 ?_;(with_reducible refine (nomination_next.calls k2 d3 d6 d7 d8 e0 _ _ d1 _ _ d2 e1 _ _ f0 _ _ g2 _ _ e2 _ _ d4 _ _ b3 D9 E0 _ ?side1 ?side2 ?side3 ?side4 ?side5 ?side6 ?side7 ?side8 ?side9 ?side10 ?side11 ?side12 ?side13 ?side14 O1.out).mono ?_);(case side1=>refine (Kd.V_reads' (e:=3) (base:=w.heap.size) (ok:=fun k_=>(((b5 k_∨b6 k_∨b7 k_∨b8 k_∨b9 k_∨c0 k_)∨w.heap.size≤k_)∧(some k_≠(.slice d0 b3.length c1:Value).ownBlock∧(k_≠b1∧(k_≠b2∧k_≠b4))))) (n:=d1.length) (c:=f2) ?_).2.2;exact (by (with_reducible repeat (first|apply Kd.V_alloc|apply Kd.V_drewN|apply Kd.V_drew));exact (Kd.V_mono (Kd.V_far (p:=⟨b1,9,none⟩) (Kd.V_mono e8.out (fun k_ hk=>(⟨hk,hk.2.2.1⟩:_∧k_≠b1))) (fun _ hk=>hk.2) (.slice h2 g2.length h0)) (fun _ h_=>h_.1))));(case side2=>exact (Kd.V_reads' e8.out).2.1);(case side3=>refine (Kd.V_reads' (e:=30) (base:=w.heap.size) (ok:=fun k_=>(((b5 k_∨b6 k_∨b7 k_∨b8 k_∨b9 k_∨c0 k_)∨w.heap.size≤k_)∧(some k_≠(.slice d0 b3.length c1:Value).ownBlock∧(k_≠b1∧(k_≠b2∧k_≠b4))))) (n:=d2.length) (c:=f3) ?_).2.2;exact (by (with_reducible repeat (first|apply Kd.V_alloc|apply Kd.V_drewN|apply Kd.V_drew));exact (Kd.V_mono (Kd.V_far (p:=⟨b1,9,none⟩) (Kd.V_mono e9.out (fun k_ hk=>(⟨hk,hk.2.2.1⟩:_∧k_≠b1))) (fun _ hk=>hk.2) (.slice h2 g2.length h0)) (fun _ h_=>h_.1))));(case side4=>exact (Kd.V_reads' e9.out).2.1);(case side5=>refine (Kd.V_reads' (e:=9) (base:=w.heap.size) (ok:=fun k_=>(((b5 k_∨b6 k_∨b7 k_∨b8 k_∨b9 k_∨c0 k_)∨w.heap.size≤k_)∧(some k_≠(.slice d0 b3.length c1:Value).ownBlock∧(k_≠b1∧(k_≠b2∧k_≠b4))))) (n:=f0.length) (c:=f9) ?_).2.2;exact (by (with_reducible repeat (first|apply Kd.V_alloc|apply Kd.V_drewN|apply Kd.V_drew));exact (Kd.V_mono (Kd.V_far (p:=⟨b1,9,none⟩) (Kd.V_mono e5.out (fun k_ hk=>(⟨hk,hk.2.2.1⟩:_∧k_≠b1))) (fun _ hk=>hk.2) (.slice h2 g2.length h0)) (fun _ h_=>h_.1))));(case side6=>exact (Kd.V_reads' e5.out).2.1);(case side7=>refine (Kd.V_reads' (e:=9) (base:=w.heap.size) (ok:=fun k_=>(((b5 k_∨b6 k_∨b7 k_∨b8 k_∨b9 k_∨c0 k_)∨w.heap.size≤k_)∧(some k_≠(.slice d0 b3.length c1:Value).ownBlock∧(k_≠b1∧(k_≠b2∧k_≠b4))))) (n:=g2.length) (c:=h0) ?_).2.2;exact (by (with_reducible repeat (first|apply Kd.V_alloc|apply Kd.V_drewN|apply Kd.V_drew));exact (Kd.V_mono (Kd.V_far (p:=⟨b1,9,none⟩) (Kd.V_mono o0.out (fun k_ hk=>(⟨hk,hk.2.2.1⟩:_∧k_≠b1))) (fun _ hk=>hk.2) (.slice h2 g2.length h0)) (fun _ h_=>h_.1))));(case side8=>exact (Kd.V_reads' o0.out).2.1);(case side9=>refine (Kd.V_reads' (e:=9) (base:=w.heap.size) (ok:=fun k_=>(((b5 k_∨b6 k_∨b7 k_∨b8 k_∨b9 k_∨c0 k_)∨w.heap.size≤k_)∧(some k_≠(.slice d0 b3.length c1:Value).ownBlock∧(k_≠b1∧(k_≠b2∧k_≠b4))))) (n:=e2.length) (c:=g4) ?_).2.2;exact (by (with_reducible repeat (first|apply Kd.V_alloc|apply Kd.V_drewN|apply Kd.V_drew));exact (Kd.V_mono (Kd.V_far (p:=⟨b1,9,none⟩) (Kd.V_mono e3.out (fun k_ hk=>(⟨hk,hk.2.2.1⟩:_∧k_≠b1))) (fun _ hk=>hk.2) (.slice h2 g2.length h0)) (fun _ h_=>h_.1))));(case side10=>exact (Kd.V_reads' e3.out).2.1);(case side11=>refine (Kd.V_reads' (e:=48) (base:=w.heap.size) (ok:=fun k_=>(((b5 k_∨b6 k_∨b7 k_∨b8 k_∨b9 k_∨c0 k_)∨w.heap.size≤k_)∧(some k_≠(.slice d0 b3.length c1:Value).ownBlock∧(k_≠b1∧(k_≠b2∧k_≠b4))))) (n:=d4.length) (c:=f6) ?_).2.2;exact (by (with_reducible repeat (first|apply Kd.V_alloc|apply Kd.V_drewN|apply Kd.V_drew));exact (Kd.V_mono (Kd.V_far (p:=⟨b1,9,none⟩) (Kd.V_mono e7.out (fun k_ hk=>(⟨hk,hk.2.2.1⟩:_∧k_≠b1))) (fun _ hk=>hk.2) (.slice h2 g2.length h0)) (fun _ h_=>h_.1))));(case side12=>exact (Kd.V_reads' e7.out).2.1);(case side13=>refine (Kd.N_reads' (e:=87) (base:=w.heap.size) (ok:=fun k_=>(((b5 k_∨b6 k_∨b7 k_∨b8 k_∨b9 k_∨c0 k_)∨w.heap.size≤k_)∧(k_≠b1∧(k_≠b2∧k_≠b4)))) (n:=b3.length) (c:=c1) ?_).2.2;exact (by (with_reducible repeat (first|apply Kd.N_alloc|apply Kd.N_drewN|apply Kd.N_drew));exact (Kd.N_mono (Kd.N_far (p:=⟨b1,9,none⟩) (Kd.N_mono f1.out (fun k_ hk=>(⟨hk,hk.2.1⟩:_∧k_≠b1))) (fun _ hk=>hk.2) (.slice h2 g2.length h0)) (fun _ h_=>h_.1))));(case side14=>exact (Kd.N_reads' f1.out).2.1);rintro e aN ⟨rfl,hb⟩;refine ⟨_,rfl,?_⟩;refine ap12 (Kd.V_below (by (with_reducible repeat (first|apply Kd.V_alloc|apply Kd.V_drewN|apply Kd.V_drew));exact (Kd.V_mono (Kd.V_far (p:=⟨b1,9,none⟩) (Kd.V_mono e8.out (fun k_ hk=>(⟨hk,hk.2.2.1⟩:_∧k_≠b1))) (fun _ hk=>hk.2) (.slice h2 g2.length h0)) (fun _ h_=>h_.1))) hb) (Kd.V_below (by (with_reducible repeat (first|apply Kd.V_alloc|apply Kd.V_drewN|apply Kd.V_drew));exact (Kd.V_mono (Kd.V_far (p:=⟨b1,9,none⟩) (Kd.V_mono e9.out (fun k_ hk=>(⟨hk,hk.2.2.1⟩:_∧k_≠b1))) (fun _ hk=>hk.2) (.slice h2 g2.length h0)) (fun _ h_=>h_.1))) hb) (Kd.V_below (by (with_reducible repeat (first|apply Kd.V_alloc|apply Kd.V_drewN|apply Kd.V_drew));exact (Kd.V_mono (Kd.V_far (p:=⟨b1,9,none⟩) (Kd.V_mono e5.out (fun k_ hk=>(⟨hk,hk.2.2.1⟩:_∧k_≠b1))) (fun _ hk=>hk.2) (.slice h2 g2.length h0)) (fun _ h_=>h_.1))) hb) (Kd.V_below (by (with_reducible repeat (first|apply Kd.V_alloc|apply Kd.V_drewN|apply Kd.V_drew));exact (Kd.V_mono (Kd.V_far (p:=⟨b1,9,none⟩) (Kd.V_mono e6.out (fun k_ hk=>(⟨hk,hk.2.2.1⟩:_∧k_≠b1))) (fun _ hk=>hk.2) (.slice h2 g2.length h0)) (fun _ h_=>h_.1))) hb) (Kd.V_below (by (with_reducible repeat (first|apply Kd.V_alloc|apply Kd.V_drewN|apply Kd.V_drew));exact (Kd.V_mono (Kd.V_far (p:=⟨b1,9,none⟩) (Kd.V_mono e3.out (fun k_ hk=>(⟨hk,hk.2.2.1⟩:_∧k_≠b1))) (fun _ hk=>hk.2) (.slice h2 g2.length h0)) (fun _ h_=>h_.1))) hb) (Kd.V_below (by (with_reducible repeat (first|apply Kd.V_alloc|apply Kd.V_drewN|apply Kd.V_drew));exact (Kd.V_mono (Kd.V_far (p:=⟨b1,9,none⟩) (Kd.V_mono e7.out (fun k_ hk=>(⟨hk,hk.2.2.1⟩:_∧k_≠b1))) (fun _ hk=>hk.2) (.slice h2 g2.length h0)) (fun _ h_=>h_.1))) hb) (Kd.N_below (by (with_reducible repeat (first|apply Kd.N_alloc|apply Kd.N_drewN|apply Kd.N_drew));exact (Kd.N_mono (Kd.N_far (p:=⟨b1,9,none⟩) (Kd.N_mono f1.out (fun k_ hk=>(⟨hk,hk.2.1⟩:_∧k_≠b1))) (fun _ hk=>hk.2) (.slice h2 g2.length h0)) (fun _ h_=>h_.1))) hb) (Kd.V_below (by (with_reducible repeat (first|apply Kd.V_alloc|apply Kd.V_drewN|apply Kd.V_drew));exact (Kd.V_mono (Kd.V_far (p:=⟨b1,9,none⟩) (Kd.V_mono o0.out (fun k_ hk=>(⟨hk,hk.2.2.1⟩:_∧k_≠b1))) (fun _ hk=>hk.2) (.slice h2 g2.length h0)) (fun _ h_=>h_.1))) hb) (blk_below (g:=b1) (o:=.cells #[.int .i64 d3,.int .i64 d6,.int .i64 d7,.int .i64 d8,.int .i64 e0,.slice f4 d1.length f2,.slice f5 d2.length f3,.string e1,.slice g1 f0.length f9,.slice h2 g2.length h0,.slice g6 e2.length g4,.slice f7 d4.length f6] 33 (0,0)) (by refine blkQ ?_;refine blk_put (cs:=#[.int .i64 d3,.int .i64 d6,.int .i64 d7,.int .i64 d8,.int .i64 e0,.slice f4 d1.length f2,.slice f5 d2.length f3,.string e1,.slice g1 f0.length f9,.slice E1 d9.length E2,.slice g6 e2.length g4,.slice f7 d4.length f6]) ?_ 9 _ rfl;refine blkQ ?_;exact b0.out) hb) (blk_below (g:=b2) (o:=.cells #[.int .i64 0,.int .i64 0,.int .i64 0,.int .i64 0,.int .i64 0,.slice none 0 0,.slice none 0 0,.string (⟨#[]⟩:ByteArray),.slice none 0 0,.slice none 0 0,.slice none 0 0,.slice none 0 0] 33 (0,0)) (by refine blkQ ?_;refine blk_far ?_ l7.out _;refine blkQ ?_;exact d5.out) hb) (blk_below (g:=b4) (o:=.cells #[.slice d0 b3.length c1] 53 (0,0)) (by refine blkQ ?_;refine blk_far ?_ m8.out _;refine blkQ ?_;exact e4.out) hb) (below_step (belowP HB) hb) ?_;clear e8 e9 e5 e6 e3 e7 f1 o0 b0 d5 e4 HB;intro e8 e9 e5 e6 e3 e7 f1 o0 b0 d5 e4 HB))
      go_roundg k2
      case measure=>have:=HJ1.out;have:=o8.out;omega
      case rel=>exact ⟨(D9),(E0),(g2),(.slice h2 g2.length h0),tz3,tz3,H',⟨by have:=HJ1.out;have:=o8.out;omega⟩,⟨by (with_reducible repeat (first|apply Kd.V_alloc|apply Kd.V_drewN|apply Kd.V_drew));exact e8.out⟩,⟨by (with_reducible repeat (first|apply Kd.V_alloc|apply Kd.V_drewN|apply Kd.V_drew));exact e9.out⟩,⟨by (with_reducible repeat (first|apply Kd.V_alloc|apply Kd.V_drewN|apply Kd.V_drew));exact e5.out⟩,⟨by (with_reducible repeat (first|apply Kd.V_alloc|apply Kd.V_drewN|apply Kd.V_drew));exact o0.out⟩,⟨by (with_reducible repeat (first|apply Kd.V_alloc|apply Kd.V_drewN|apply Kd.V_drew));exact e3.out⟩,⟨by (with_reducible repeat (first|apply Kd.V_alloc|apply Kd.V_drewN|apply Kd.V_drew));exact e7.out⟩,⟨by (with_reducible repeat (first|apply Kd.N_alloc|apply Kd.N_drewN|apply Kd.N_drew));exact f1.out⟩,⟨by refine blkQ ?_;exact b0.out⟩,⟨by refine blkQ ?_;exact d5.out⟩,⟨by refine blkQ ?_;exact e4.out⟩,⟨by repeat (first|(with_reducible first|exact HB.out|apply below_alloc|apply pw_below_drewN|apply below_drew1|refine below_set ?_ m4.out|refine below_set ?_ m5.out|refine below_set ?_ o6.out)|exact HB.out)⟩⟩
     ·replace r0:=Bool.eq_false_iff.mpr r0
      subst r0
      rw [if_neg (show ¬ (false=true) by decide)] at H
      replace H:=Option.bind_eq_some_iff.mp H
      obtain ⟨l3,L1,H⟩:=H
      replace H:((nomination_say.f d3 d6 d7 d8 e0 d1 d2 e1 f0 d9 e2 d4).bind fun h6=>(if l3.length < 1172812402961 then (nomination_settled.l1 k2 (l3 ++ [(⟨h6.1,h6.2.1,(⟨h6.2.2.1,h6.2.2.2.1,h6.2.2.2.2.1⟩:S30),h6.2.2.2.2.2.1,h6.2.2.2.2.2.2⟩:S48)]) d9 (d9.length:Int) 0 d3 d6 d7 d8 e0 d1 d2 e1 f0 d9 e2 d4 b3) else (none)))=some (r1,r2,r3,r4,r5,r6,r7,r8,r9,r10,r11,r12):=H
      have U2:=Aside0.mk L1
      clear L1
      replace H:=Option.bind_eq_some_iff.mp H
      obtain ⟨⟨o9,p0,p1,p2,p3,p4,p5⟩,L2,H⟩:=H
      replace H:(if l3.length < 1172812402961 then (nomination_settled.l1 k2 (l3 ++ [(⟨o9,p0,(⟨p1,p2,p3⟩:S30),p4,p5⟩:S48)]) d9 (d9.length:Int) 0 d3 d6 d7 d8 e0 d1 d2 e1 f0 d9 e2 d4 b3) else (none))=some (r1,r2,r3,r4,r5,r6,r7,r8,r9,r10,r11,r12):=H
      have U3:=Aside0.mk L2
      clear L2
      by_cases s0:l3.length < 1172812402961
      ·rw [if_pos s0] at H
       have LMc42:=Aside0.mk s0
       clear s0
       obtain ⟨h9,E3⟩:∃ y_:List (S48),y_=(l3 ++ [(⟨o9,p0,(⟨p1,p2,p3⟩:S30),p4,p5⟩:S48)]):=⟨_,rfl⟩
       replace H:(nomination_settled.l1 k2 h9 d9 (d9.length:Int) 0 d3 d6 d7 d8 e0 d1 d2 e1 f0 d9 e2 d4 b3)=some (r1,r2,r3,r4,r5,r6,r7,r8,r9,r10,r11,r12):=rH E3 H
       have U4:=Aside0.mk E3
       clear E3
       have H':=Aside0.mk H
       clear H
       try go_wp2
       refine ap11 (Kd.V_drew e8.out) (Kd.V_drew e9.out) (Kd.V_drew e5.out) (Kd.V_drew e6.out) (Kd.V_drew e3.out) (Kd.V_drew e7.out) (Kd.N_drew f1.out) (blk_drew b0.out) (blk_drew d5.out) (blk_drew e4.out) (below_drew1 HB.out) ?_
       clear e8 e9 e5 e6 e3 e7 f1 b0 d5 e4 HB
       intro e8 e9 e5 e6 e3 e7 f1 b0 d5 e4 HB
       refine start_ (n:=8) (S:=fun w'=>w'.cell? ⟨b1,0,none⟩=some (.int .i64 d3)∧w'.cell? ⟨b1,1,none⟩=some (.int .i64 d6)∧w'.cell? ⟨b1,2,none⟩=some (.int .i64 d7)∧w'.cell? ⟨b1,3,none⟩=some (.int .i64 d8)∧w'.cell? ⟨b1,4,none⟩=some (.int .i64 e0)∧w'.cell? ⟨b1,5,none⟩=some (.slice f4 d1.length f2)∧w'.cell? ⟨b1,6,none⟩=some (.slice f5 d2.length f3)∧w'.cell? ⟨b1,7,none⟩=some (.string e1)∧w'.cell? ⟨b1,8,none⟩=some (.slice g1 f0.length f9)∧w'.cell? ⟨b1,9,none⟩=some (s3)∧w'.cell? ⟨b1,10,none⟩=some (.slice g6 e2.length g4)∧w'.cell? ⟨b1,11,none⟩=some (.slice f7 d4.length f6)) (ds:=[]) #[false,false,false,false,false,false,false,false] (by kernel_rfl) rfl rfl ⟨(blk_cell b0.out 0).trans rfl,(blk_cell b0.out 1).trans rfl,(blk_cell b0.out 2).trans rfl,(blk_cell b0.out 3).trans rfl,(blk_cell b0.out 4).trans rfl,(blk_cell b0.out 5).trans rfl,(blk_cell b0.out 6).trans rfl,(blk_cell b0.out 7).trans rfl,(blk_cell b0.out 8).trans rfl,(blk_cell b0.out 9).trans rfl,(blk_cell b0.out 10).trans rfl,(blk_cell b0.out 11).trans rfl⟩ (fun hHeld=>?_);refine with_tabW nomination_settled.tab8 nomination_settled.bits8 (fun HT_ HW_=>?_)
       generalize wr.drew=aQ at e8 e9 e5 e6 e3 e7 f1 b0 d5 e4 HB hHeld ⊢
       refine pure_ (i:=0) (N:=some 38) #[true,false,false,false,false,false,false,false] rfl rfl (any_of HT_.out (by kernel_rfl)) (fun _ _ _ h=>h) (Or.inl ⟨by rfl,tz4⟩) tz1 ?_
       refine take_ (i:=1) (N:=some 39) #[true,true,false,false,false,false,false,false] rfl rfl (take_ofW HT_.out HW_.out (by kernel_rfl)) (fun _ _ _ h=>h) (Or.inl ⟨by rfl,tz5⟩) hHeld tz1 ?_
       refine take_ (i:=3) (N:=some 41) #[true,true,false,true,false,false,false,false] rfl rfl (take_ofW HT_.out HW_.out (by kernel_rfl)) (fun _ _ _ h=>h) (Or.inl ⟨by rfl,tz5⟩) hHeld tz1 ?_
       refine one_ (i:=2) (N:=some 40) #[true,true,true,true,false,false,false,false] rfl rfl (one_of HT_.out (by kernel_rfl)) (by decide) (fun K hK=>?_)
       refine goes_ Try.func27 (by kernel_rfl) rfl #[.slice f7 d4.length f6] (by rfl) rfl rfl tz0 ?_
       with_reducible refine (api_Nomination.calls (fun k_=>(((b5 k_∨b6 k_∨b7 k_∨b8 k_∨b9 k_∨c0 k_)∨w.heap.size≤k_)∧(some k_≠(.slice d0 b3.length c1:Value).ownBlock∧(k_≠b1∧(k_≠b2∧k_≠b4))))) _ _ d4 l3 _ ?side1 U2.out).mono ?_
       (case side1=>exact e7.out)
       rintro e aR ⟨h3,rfl,g3,hb⟩
       refine ⟨_,rfl,?_⟩
       refine ap12 (Kd.V_elder' (by (with_reducible repeat (first|apply Kd.V_alloc|apply Kd.V_drewN|apply Kd.V_drew));exact e8.out) (Kd.N_base g3) hb) (Kd.V_elder' (by (with_reducible repeat (first|apply Kd.V_alloc|apply Kd.V_drewN|apply Kd.V_drew));exact e9.out) (Kd.N_base g3) hb) (Kd.V_elder' (by (with_reducible repeat (first|apply Kd.V_alloc|apply Kd.V_drewN|apply Kd.V_drew));exact e5.out) (Kd.N_base g3) hb) (Kd.V_elder' (by (with_reducible repeat (first|apply Kd.V_alloc|apply Kd.V_drewN|apply Kd.V_drew));exact e6.out) (Kd.N_base g3) hb) (Kd.V_elder' (by (with_reducible repeat (first|apply Kd.V_alloc|apply Kd.V_drewN|apply Kd.V_drew));exact e3.out) (Kd.N_base g3) hb) (Kd.V_elder' (by (with_reducible repeat (first|apply Kd.V_alloc|apply Kd.V_drewN|apply Kd.V_drew));exact e7.out) (Kd.N_base g3) hb) (Kd.N_elder' (by (with_reducible repeat (first|apply Kd.N_alloc|apply Kd.N_drewN|apply Kd.N_drew));exact f1.out) (Kd.N_base g3) hb) (Kd.N_lower (Kd.N_mono (ok':=fun k_=>((b5 k_∨b6 k_∨b7 k_∨b8 k_∨b9 k_∨c0 k_)∨w.heap.size≤k_)∧some k_≠(.slice d0 b3.length c1:Value).ownBlock∧k_≠b1∧k_≠b2∧k_≠b4) g3 (fun k_ hk_=>⟨Or.elim hk_ (fun hs_=>hs_.1) (fun hn_=>(.inr (Nat.le_trans (below_size (belowP HB)) hn_))),Or.elim hk_ (fun hs_=>hs_.2.1) (fun hn_=>(Kd.fresh' (Kd.N_lt (by (with_reducible repeat (first|apply Kd.N_alloc|apply Kd.N_drewN|apply Kd.N_drew));exact f1.out)) k_ hn_)),Or.elim hk_ (fun hs_=>hs_.2.2.1) (fun hn_=>(Kd.freshB (blkP b0) k_ hn_)),Or.elim hk_ (fun hs_=>hs_.2.2.2.1) (fun hn_=>(Kd.freshB (blkP d5) k_ hn_)),Or.elim hk_ (fun hs_=>hs_.2.2.2.2) (fun hn_=>(Kd.freshB (blkP e4) k_ hn_))⟩)) (below_size (belowP HB))) (blk_below (blkP b0) hb) (blk_below (blkP d5) hb) (blk_below (blkP e4) hb) (below_step (belowP HB) hb) ?_
       clear e8 e9 e5 e6 e3 e7 f1 b0 d5 e4 HB
       intro e8 e9 e5 e6 e3 e7 f1 k7 b0 d5 e4 HB
       (try clear hb)
       (try clear hb2)
       (try clear hk)
       (try clear hi)
       (try clear g3)
       obtain ⟨i9,h4,L3⟩:=Kd.V_slice e6.out
       (first|subst L3|(injection L3 with f1_ f2_ f3_;have f4_:=f1_.symm;have f5_:=f3_.symm;clear f1_ f2_ f3_;subst f4_;subst f5_))
       refine hK.out _ _ ⟨(blk_cell b0.out 0).trans rfl,(blk_cell b0.out 1).trans rfl,(blk_cell b0.out 2).trans rfl,(blk_cell b0.out 3).trans rfl,(blk_cell b0.out 4).trans rfl,(blk_cell b0.out 5).trans rfl,(blk_cell b0.out 6).trans rfl,(blk_cell b0.out 7).trans rfl,(blk_cell b0.out 8).trans rfl,(blk_cell b0.out 9).trans rfl,(blk_cell b0.out 10).trans rfl,(blk_cell b0.out 11).trans rfl⟩ (fun hHeld=>?_)
       clear hK K
       refine norm_ (a':=?_) ?_ ?_
       rotate_left
       ·show Act.put _ (some 40) _=_
        simp only [Act.put,List.setIfInBounds_toArray,List.set_cons_zero,List.set_cons_succ,i64_w,i32_w]
        rfl
       refine one_ (i:=4) (N:=some 42) #[true,true,true,true,true,false,false,false] rfl rfl (one_of HT_.out (by kernel_rfl)) (by decide) (fun K hK=>?_)
       refine goes_ Try.func28 (by kernel_rfl) rfl #[.agg #[.int .i64 d3,.int .i64 d6,.int .i64 d7,.int .i64 d8,.int .i64 e0,.slice f4 d1.length f2,.slice f5 d2.length f3,.string e1,.slice g1 f0.length f9,.slice i9 d9.length h4,.slice g6 e2.length g4,.slice f7 d4.length f6]] (by rfl) rfl rfl tz0 ?_
       with_reducible refine (nomination_say.calls d3 d6 d7 d8 e0 (fun k_=>((((b5 k_∨b6 k_∨b7 k_∨b8 k_∨b9 k_∨c0 k_)∨w.heap.size≤k_)∧(some k_≠(.slice d0 b3.length c1:Value).ownBlock∧(k_≠b1∧(k_≠b2∧k_≠b4))))∧some k_≠(h3:Value).ownBlock)) _ _ d1 (fun k_=>((((b5 k_∨b6 k_∨b7 k_∨b8 k_∨b9 k_∨c0 k_)∨w.heap.size≤k_)∧(some k_≠(.slice d0 b3.length c1:Value).ownBlock∧(k_≠b1∧(k_≠b2∧k_≠b4))))∧some k_≠(h3:Value).ownBlock)) _ _ d2 e1 (fun k_=>((((b5 k_∨b6 k_∨b7 k_∨b8 k_∨b9 k_∨c0 k_)∨w.heap.size≤k_)∧(some k_≠(.slice d0 b3.length c1:Value).ownBlock∧(k_≠b1∧(k_≠b2∧k_≠b4))))∧some k_≠(h3:Value).ownBlock)) _ _ f0 (fun k_=>((((b5 k_∨b6 k_∨b7 k_∨b8 k_∨b9 k_∨c0 k_)∨w.heap.size≤k_)∧(some k_≠(.slice d0 b3.length c1:Value).ownBlock∧(k_≠b1∧(k_≠b2∧k_≠b4))))∧some k_≠(h3:Value).ownBlock)) _ _ d9 _ _ e2 _ _ d4 o9 p0 p1 p2 p3 p4 p5 _ ?side1 ?side2 ?side3 ?side4 ?side5 ?side6 ?side7 ?side8 U3.out).mono ?_
       (case side1=>exact e8.out)
       (case side2=>exact e9.out)
       (case side3=>exact e5.out)
       (case side4=>exact e6.out)
       (case side5=>exact Kd.C_q ((Kd.V_reads' e3.out).2.2))
       (case side6=>exact (Kd.V_reads' e3.out).2.1)
       (case side7=>exact Kd.C_q ((Kd.V_reads' e7.out).2.2))
       (case side8=>exact (Kd.V_reads' e7.out).2.1)
       rintro e aT ⟨aU,aV,aW,aX,rfl,g3,L4,L5,L6,hb⟩
       refine ⟨_,rfl,?_⟩
       refine ap16 (Kd.V_below (by (with_reducible repeat (first|apply Kd.V_alloc|apply Kd.V_drewN|apply Kd.V_drew));exact e8.out) hb) (Kd.V_below (by (with_reducible repeat (first|apply Kd.V_alloc|apply Kd.V_drewN|apply Kd.V_drew));exact e9.out) hb) (Kd.V_below (by (with_reducible repeat (first|apply Kd.V_alloc|apply Kd.V_drewN|apply Kd.V_drew));exact e5.out) hb) (Kd.V_below (by (with_reducible repeat (first|apply Kd.V_alloc|apply Kd.V_drewN|apply Kd.V_drew));exact e6.out) hb) (Kd.V_below (by (with_reducible repeat (first|apply Kd.V_alloc|apply Kd.V_drewN|apply Kd.V_drew));exact e3.out) hb) (Kd.V_below (by (with_reducible repeat (first|apply Kd.V_alloc|apply Kd.V_drewN|apply Kd.V_drew));exact e7.out) hb) (Kd.N_below (by (with_reducible repeat (first|apply Kd.N_alloc|apply Kd.N_drewN|apply Kd.N_drew));exact f1.out) hb) (Kd.N_below (by (with_reducible repeat (first|apply Kd.N_alloc|apply Kd.N_drewN|apply Kd.N_drew));exact k7.out) hb) (Kd.V_lower (Kd.V_mono (ok':=fun k_=>((b5 k_∨b6 k_∨b7 k_∨b8 k_∨b9 k_∨c0 k_)∨w.heap.size≤k_)∧some k_≠(.slice d0 b3.length c1:Value).ownBlock∧some k_≠(h3:Value).ownBlock∧k_≠b1∧k_≠b2∧k_≠b4) g3 (fun k_ hk_=>⟨Or.elim hk_ (fun hs_=>Or.elim hs_ (fun hs_=>hs_.1.1) (fun hs_=>Or.elim hs_ (fun hs_=>hs_.1.1) (fun hs_=>Or.elim hs_ (fun hs_=>hs_.1.1) (fun hs_=>hs_.1.1)))) (fun hn_=>(.inr (Nat.le_trans (below_size (belowP HB)) hn_))),Or.elim hk_ (fun hs_=>Or.elim hs_ (fun hs_=>hs_.1.2.1) (fun hs_=>Or.elim hs_ (fun hs_=>hs_.1.2.1) (fun hs_=>Or.elim hs_ (fun hs_=>hs_.1.2.1) (fun hs_=>hs_.1.2.1)))) (fun hn_=>(Kd.fresh' (Kd.N_lt (by (with_reducible repeat (first|apply Kd.N_alloc|apply Kd.N_drewN|apply Kd.N_drew));exact f1.out)) k_ hn_)),Or.elim hk_ (fun hs_=>Or.elim hs_ (fun hs_=>hs_.2) (fun hs_=>Or.elim hs_ (fun hs_=>hs_.2) (fun hs_=>Or.elim hs_ (fun hs_=>hs_.2) (fun hs_=>hs_.2)))) (fun hn_=>(Kd.fresh' (Kd.N_lt (by (with_reducible repeat (first|apply Kd.N_alloc|apply Kd.N_drewN|apply Kd.N_drew));exact k7.out)) k_ hn_)),Or.elim hk_ (fun hs_=>Or.elim hs_ (fun hs_=>hs_.1.2.2.1) (fun hs_=>Or.elim hs_ (fun hs_=>hs_.1.2.2.1) (fun hs_=>Or.elim hs_ (fun hs_=>hs_.1.2.2.1) (fun hs_=>hs_.1.2.2.1)))) (fun hn_=>(Kd.freshB (blkP b0) k_ hn_)),Or.elim hk_ (fun hs_=>Or.elim hs_ (fun hs_=>hs_.1.2.2.2.1) (fun hs_=>Or.elim hs_ (fun hs_=>hs_.1.2.2.2.1) (fun hs_=>Or.elim hs_ (fun hs_=>hs_.1.2.2.2.1) (fun hs_=>hs_.1.2.2.2.1)))) (fun hn_=>(Kd.freshB (blkP d5) k_ hn_)),Or.elim hk_ (fun hs_=>Or.elim hs_ (fun hs_=>hs_.1.2.2.2.2) (fun hs_=>Or.elim hs_ (fun hs_=>hs_.1.2.2.2.2) (fun hs_=>Or.elim hs_ (fun hs_=>hs_.1.2.2.2.2) (fun hs_=>hs_.1.2.2.2.2)))) (fun hn_=>(Kd.freshB (blkP e4) k_ hn_))⟩)) (below_size (belowP HB))) (Kd.V_lower (Kd.V_mono (ok':=fun k_=>((b5 k_∨b6 k_∨b7 k_∨b8 k_∨b9 k_∨c0 k_)∨w.heap.size≤k_)∧some k_≠(.slice d0 b3.length c1:Value).ownBlock∧some k_≠(h3:Value).ownBlock∧k_≠b1∧k_≠b2∧k_≠b4) L4 (fun k_ hk_=>⟨Or.elim hk_ (fun hs_=>Or.elim hs_ (fun hs_=>hs_.1.1) (fun hs_=>Or.elim hs_ (fun hs_=>hs_.1.1) (fun hs_=>Or.elim hs_ (fun hs_=>hs_.1.1) (fun hs_=>hs_.1.1)))) (fun hn_=>(.inr (Nat.le_trans (below_size (belowP HB)) hn_))),Or.elim hk_ (fun hs_=>Or.elim hs_ (fun hs_=>hs_.1.2.1) (fun hs_=>Or.elim hs_ (fun hs_=>hs_.1.2.1) (fun hs_=>Or.elim hs_ (fun hs_=>hs_.1.2.1) (fun hs_=>hs_.1.2.1)))) (fun hn_=>(Kd.fresh' (Kd.N_lt (by (with_reducible repeat (first|apply Kd.N_alloc|apply Kd.N_drewN|apply Kd.N_drew));exact f1.out)) k_ hn_)),Or.elim hk_ (fun hs_=>Or.elim hs_ (fun hs_=>hs_.2) (fun hs_=>Or.elim hs_ (fun hs_=>hs_.2) (fun hs_=>Or.elim hs_ (fun hs_=>hs_.2) (fun hs_=>hs_.2)))) (fun hn_=>(Kd.fresh' (Kd.N_lt (by (with_reducible repeat (first|apply Kd.N_alloc|apply Kd.N_drewN|apply Kd.N_drew));exact k7.out)) k_ hn_)),Or.elim hk_ (fun hs_=>Or.elim hs_ (fun hs_=>hs_.1.2.2.1) (fun hs_=>Or.elim hs_ (fun hs_=>hs_.1.2.2.1) (fun hs_=>Or.elim hs_ (fun hs_=>hs_.1.2.2.1) (fun hs_=>hs_.1.2.2.1)))) (fun hn_=>(Kd.freshB (blkP b0) k_ hn_)),Or.elim hk_ (fun hs_=>Or.elim hs_ (fun hs_=>hs_.1.2.2.2.1) (fun hs_=>Or.elim hs_ (fun hs_=>hs_.1.2.2.2.1) (fun hs_=>Or.elim hs_ (fun hs_=>hs_.1.2.2.2.1) (fun hs_=>hs_.1.2.2.2.1)))) (fun hn_=>(Kd.freshB (blkP d5) k_ hn_)),Or.elim hk_ (fun hs_=>Or.elim hs_ (fun hs_=>hs_.1.2.2.2.2) (fun hs_=>Or.elim hs_ (fun hs_=>hs_.1.2.2.2.2) (fun hs_=>Or.elim hs_ (fun hs_=>hs_.1.2.2.2.2) (fun hs_=>hs_.1.2.2.2.2)))) (fun hn_=>(Kd.freshB (blkP e4) k_ hn_))⟩)) (below_size (belowP HB))) (Kd.V_lower (Kd.V_mono (ok':=fun k_=>((b5 k_∨b6 k_∨b7 k_∨b8 k_∨b9 k_∨c0 k_)∨w.heap.size≤k_)∧some k_≠(.slice d0 b3.length c1:Value).ownBlock∧some k_≠(h3:Value).ownBlock∧k_≠b1∧k_≠b2∧k_≠b4) L5 (fun k_ hk_=>⟨Or.elim hk_ (fun hs_=>Or.elim hs_ (fun hs_=>hs_.1.1) (fun hs_=>Or.elim hs_ (fun hs_=>hs_.1.1) (fun hs_=>Or.elim hs_ (fun hs_=>hs_.1.1) (fun hs_=>hs_.1.1)))) (fun hn_=>(.inr (Nat.le_trans (below_size (belowP HB)) hn_))),Or.elim hk_ (fun hs_=>Or.elim hs_ (fun hs_=>hs_.1.2.1) (fun hs_=>Or.elim hs_ (fun hs_=>hs_.1.2.1) (fun hs_=>Or.elim hs_ (fun hs_=>hs_.1.2.1) (fun hs_=>hs_.1.2.1)))) (fun hn_=>(Kd.fresh' (Kd.N_lt (by (with_reducible repeat (first|apply Kd.N_alloc|apply Kd.N_drewN|apply Kd.N_drew));exact f1.out)) k_ hn_)),Or.elim hk_ (fun hs_=>Or.elim hs_ (fun hs_=>hs_.2) (fun hs_=>Or.elim hs_ (fun hs_=>hs_.2) (fun hs_=>Or.elim hs_ (fun hs_=>hs_.2) (fun hs_=>hs_.2)))) (fun hn_=>(Kd.fresh' (Kd.N_lt (by (with_reducible repeat (first|apply Kd.N_alloc|apply Kd.N_drewN|apply Kd.N_drew));exact k7.out)) k_ hn_)),Or.elim hk_ (fun hs_=>Or.elim hs_ (fun hs_=>hs_.1.2.2.1) (fun hs_=>Or.elim hs_ (fun hs_=>hs_.1.2.2.1) (fun hs_=>Or.elim hs_ (fun hs_=>hs_.1.2.2.1) (fun hs_=>hs_.1.2.2.1)))) (fun hn_=>(Kd.freshB (blkP b0) k_ hn_)),Or.elim hk_ (fun hs_=>Or.elim hs_ (fun hs_=>hs_.1.2.2.2.1) (fun hs_=>Or.elim hs_ (fun hs_=>hs_.1.2.2.2.1) (fun hs_=>Or.elim hs_ (fun hs_=>hs_.1.2.2.2.1) (fun hs_=>hs_.1.2.2.2.1)))) (fun hn_=>(Kd.freshB (blkP d5) k_ hn_)),Or.elim hk_ (fun hs_=>Or.elim hs_ (fun hs_=>hs_.1.2.2.2.2) (fun hs_=>Or.elim hs_ (fun hs_=>hs_.1.2.2.2.2) (fun hs_=>Or.elim hs_ (fun hs_=>hs_.1.2.2.2.2) (fun hs_=>hs_.1.2.2.2.2)))) (fun hn_=>(Kd.freshB (blkP e4) k_ hn_))⟩)) (below_size (belowP HB))) (Kd.V_lower (Kd.V_mono (ok':=fun k_=>((b5 k_∨b6 k_∨b7 k_∨b8 k_∨b9 k_∨c0 k_)∨w.heap.size≤k_)∧some k_≠(.slice d0 b3.length c1:Value).ownBlock∧some k_≠(h3:Value).ownBlock∧k_≠b1∧k_≠b2∧k_≠b4) L6 (fun k_ hk_=>⟨Or.elim hk_ (fun hs_=>Or.elim hs_ (fun hs_=>hs_.1.1) (fun hs_=>Or.elim hs_ (fun hs_=>hs_.1.1) (fun hs_=>Or.elim hs_ (fun hs_=>hs_.1.1) (fun hs_=>hs_.1.1)))) (fun hn_=>(.inr (Nat.le_trans (below_size (belowP HB)) hn_))),Or.elim hk_ (fun hs_=>Or.elim hs_ (fun hs_=>hs_.1.2.1) (fun hs_=>Or.elim hs_ (fun hs_=>hs_.1.2.1) (fun hs_=>Or.elim hs_ (fun hs_=>hs_.1.2.1) (fun hs_=>hs_.1.2.1)))) (fun hn_=>(Kd.fresh' (Kd.N_lt (by (with_reducible repeat (first|apply Kd.N_alloc|apply Kd.N_drewN|apply Kd.N_drew));exact f1.out)) k_ hn_)),Or.elim hk_ (fun hs_=>Or.elim hs_ (fun hs_=>hs_.2) (fun hs_=>Or.elim hs_ (fun hs_=>hs_.2) (fun hs_=>Or.elim hs_ (fun hs_=>hs_.2) (fun hs_=>hs_.2)))) (fun hn_=>(Kd.fresh' (Kd.N_lt (by (with_reducible repeat (first|apply Kd.N_alloc|apply Kd.N_drewN|apply Kd.N_drew));exact k7.out)) k_ hn_)),Or.elim hk_ (fun hs_=>Or.elim hs_ (fun hs_=>hs_.1.2.2.1) (fun hs_=>Or.elim hs_ (fun hs_=>hs_.1.2.2.1) (fun hs_=>Or.elim hs_ (fun hs_=>hs_.1.2.2.1) (fun hs_=>hs_.1.2.2.1)))) (fun hn_=>(Kd.freshB (blkP b0) k_ hn_)),Or.elim hk_ (fun hs_=>Or.elim hs_ (fun hs_=>hs_.1.2.2.2.1) (fun hs_=>Or.elim hs_ (fun hs_=>hs_.1.2.2.2.1) (fun hs_=>Or.elim hs_ (fun hs_=>hs_.1.2.2.2.1) (fun hs_=>hs_.1.2.2.2.1)))) (fun hn_=>(Kd.freshB (blkP d5) k_ hn_)),Or.elim hk_ (fun hs_=>Or.elim hs_ (fun hs_=>hs_.1.2.2.2.2) (fun hs_=>Or.elim hs_ (fun hs_=>hs_.1.2.2.2.2) (fun hs_=>Or.elim hs_ (fun hs_=>hs_.1.2.2.2.2) (fun hs_=>hs_.1.2.2.2.2)))) (fun hn_=>(Kd.freshB (blkP e4) k_ hn_))⟩)) (below_size (belowP HB))) (blk_below (blkP b0) hb) (blk_below (blkP d5) hb) (blk_below (blkP e4) hb) (below_step (belowP HB) hb) ?_
       clear e8 e9 e5 e6 e3 e7 f1 k7 b0 d5 e4 HB
       intro e8 e9 e5 e6 e3 e7 f1 k7 p6 p7 p8 p9 b0 d5 e4 HB
       (try clear hb)
       (try clear hb2)
       (try clear hk)
       (try clear hi)
       (try clear g3)
       (try clear L4)
       (try clear L5)
       (try clear L6)
       obtain ⟨U5,U6,L7⟩:=Kd.V_slice p6.out
       (first|subst L7|(injection L7 with f1_ f2_ f3_;have f4_:=f1_.symm;have f5_:=f3_.symm;clear f1_ f2_ f3_;subst f4_;subst f5_))
       obtain ⟨U7,U8,L8⟩:=Kd.V_slice p7.out
       (first|subst L8|(injection L8 with f1_ f2_ f3_;have f4_:=f1_.symm;have f5_:=f3_.symm;clear f1_ f2_ f3_;subst f4_;subst f5_))
       obtain ⟨U9,V0,L9⟩:=Kd.V_slice p8.out
       (first|subst L9|(injection L9 with f1_ f2_ f3_;have f4_:=f1_.symm;have f5_:=f3_.symm;clear f1_ f2_ f3_;subst f4_;subst f5_))
       obtain ⟨V1,V2,M0⟩:=Kd.V_slice p9.out
       (first|subst M0|(injection M0 with f1_ f2_ f3_;have f4_:=f1_.symm;have f5_:=f3_.symm;clear f1_ f2_ f3_;subst f4_;subst f5_))
       refine hK.out _ _ ⟨(blk_cell b0.out 0).trans rfl,(blk_cell b0.out 1).trans rfl,(blk_cell b0.out 2).trans rfl,(blk_cell b0.out 3).trans rfl,(blk_cell b0.out 4).trans rfl,(blk_cell b0.out 5).trans rfl,(blk_cell b0.out 6).trans rfl,(blk_cell b0.out 7).trans rfl,(blk_cell b0.out 8).trans rfl,(blk_cell b0.out 9).trans rfl,(blk_cell b0.out 10).trans rfl,(blk_cell b0.out 11).trans rfl⟩ (fun hHeld=>?_)
       clear hK K
       refine norm_ (a':=?_) ?_ ?_
       rotate_left
       ·show Act.put _ (some 42) _=_
        simp only [Act.put,List.setIfInBounds_toArray,List.set_cons_zero,List.set_cons_succ,i64_w,i32_w]
        rfl
       refine one_ (i:=5) (N:=some 43) #[true,true,true,true,true,true,false,false] rfl rfl (one_of HT_.out (by kernel_rfl)) (by decide) (fun K hK=>?_)
       refine value_ (w1:=?_) (v:=?_) (by rfl) rfl ?_ ?_
       rotate_left 2
       ·go_simp
        constructor
        ·rfl
        ·rfl
       refine hK.out _ _ ⟨(blk_cell (blk_alloc b0.out _) 0).trans rfl,(blk_cell (blk_alloc b0.out _) 1).trans rfl,(blk_cell (blk_alloc b0.out _) 2).trans rfl,(blk_cell (blk_alloc b0.out _) 3).trans rfl,(blk_cell (blk_alloc b0.out _) 4).trans rfl,(blk_cell (blk_alloc b0.out _) 5).trans rfl,(blk_cell (blk_alloc b0.out _) 6).trans rfl,(blk_cell (blk_alloc b0.out _) 7).trans rfl,(blk_cell (blk_alloc b0.out _) 8).trans rfl,(blk_cell (blk_alloc b0.out _) 9).trans rfl,(blk_cell (blk_alloc b0.out _) 10).trans rfl,(blk_cell (blk_alloc b0.out _) 11).trans rfl⟩ (fun hHeld=>?_)
       clear hK K
       refine norm_ (a':=?_) ?_ ?_
       rotate_left
       ·show Act.put _ (some 43) _=_
        simp only [Act.put,List.setIfInBounds_toArray,List.set_cons_zero,List.set_cons_succ,i64_w,i32_w]
        rfl
       refine one_ (i:=6) (N:=some 44) #[true,true,true,true,true,true,true,false] rfl rfl (one_of HT_.out (by kernel_rfl)) (by decide) (fun K hK=>?_)
       refine Kd.N_append_step k48 (w0:=w) w.heap.size (by rfl) (.tmp 40) (.tmp 43) 31 48 (.agg #[(.int .i64 0),(.int .i64 0),(.int .i64 0),(.slice none 0 0),(.slice none 0 0),(.slice none 0 0),(.slice none 0 0)]) 120 rfl Try.underlying31 info48 rfl (by decide) (by omega) h3 l3 (⟨o9,p0,(⟨p1,p2,p3⟩:S30),p4,p5⟩:S48) [.int .i64 o9,.int .i64 p0,.int .i64 p1,.slice U5 p2.length U6,.slice U7 p3.length U8,.slice U9 p4.length V0,.slice V1 p5.length V2] (fun k_=>((b5 k_∨b6 k_∨b7 k_∨b8 k_∨b9 k_∨c0 k_)∨w.heap.size≤k_)∧some k_≠(.slice d0 b3.length c1:Value).ownBlock∧k_≠b1∧k_≠b2∧k_≠b4) (fun k_=>((fun k_=>((b5 k_∨b6 k_∨b7 k_∨b8 k_∨b9 k_∨c0 k_)∨w.heap.size≤k_)∧some k_≠(.slice d0 b3.length c1:Value).ownBlock∧k_≠b1∧k_≠b2∧k_≠b4)) k_∧some k_≠(h3:Value).ownBlock) rfl rfl ?aP (fun _ hk=>hk) ?aF ?aO ?aB ?aS ?aL ?_
       (case aP=>exact (k48_mkF _ _ (⟨o9,p0,(⟨p1,p2,p3⟩:S30),p4,p5⟩:S48) (Kd.V_reads' (Kd.V_mono (ok':=(fun k_=>((fun k_=>((b5 k_∨b6 k_∨b7 k_∨b8 k_∨b9 k_∨c0 k_)∨w.heap.size≤k_)∧some k_≠(.slice d0 b3.length c1:Value).ownBlock∧k_≠b1∧k_≠b2∧k_≠b4)) k_∧some k_≠(h3:Value).ownBlock)) (p6.out) (fun k_ hk=>⟨⟨hk.1,⟨hk.2.1,⟨hk.2.2.2.1,⟨hk.2.2.2.2.1,hk.2.2.2.2.2⟩⟩⟩⟩,hk.2.2.1⟩))).2.1 (Kd.V_F (Kd.V_mono (ok':=(fun k_=>((fun k_=>((b5 k_∨b6 k_∨b7 k_∨b8 k_∨b9 k_∨c0 k_)∨w.heap.size≤k_)∧some k_≠(.slice d0 b3.length c1:Value).ownBlock∧k_≠b1∧k_≠b2∧k_≠b4)) k_∧some k_≠(h3:Value).ownBlock)) (p6.out) (fun k_ hk=>⟨⟨hk.1,⟨hk.2.1,⟨hk.2.2.2.1,⟨hk.2.2.2.2.1,hk.2.2.2.2.2⟩⟩⟩⟩,hk.2.2.1⟩))) (Kd.V_reads' (Kd.V_mono (ok':=(fun k_=>((fun k_=>((b5 k_∨b6 k_∨b7 k_∨b8 k_∨b9 k_∨c0 k_)∨w.heap.size≤k_)∧some k_≠(.slice d0 b3.length c1:Value).ownBlock∧k_≠b1∧k_≠b2∧k_≠b4)) k_∧some k_≠(h3:Value).ownBlock)) (p7.out) (fun k_ hk=>⟨⟨hk.1,⟨hk.2.1,⟨hk.2.2.2.1,⟨hk.2.2.2.2.1,hk.2.2.2.2.2⟩⟩⟩⟩,hk.2.2.1⟩))).2.1 (Kd.V_F (Kd.V_mono (ok':=(fun k_=>((fun k_=>((b5 k_∨b6 k_∨b7 k_∨b8 k_∨b9 k_∨c0 k_)∨w.heap.size≤k_)∧some k_≠(.slice d0 b3.length c1:Value).ownBlock∧k_≠b1∧k_≠b2∧k_≠b4)) k_∧some k_≠(h3:Value).ownBlock)) (p7.out) (fun k_ hk=>⟨⟨hk.1,⟨hk.2.1,⟨hk.2.2.2.1,⟨hk.2.2.2.2.1,hk.2.2.2.2.2⟩⟩⟩⟩,hk.2.2.1⟩))) (Kd.V_reads' (Kd.V_mono (ok':=(fun k_=>((fun k_=>((b5 k_∨b6 k_∨b7 k_∨b8 k_∨b9 k_∨c0 k_)∨w.heap.size≤k_)∧some k_≠(.slice d0 b3.length c1:Value).ownBlock∧k_≠b1∧k_≠b2∧k_≠b4)) k_∧some k_≠(h3:Value).ownBlock)) (p8.out) (fun k_ hk=>⟨⟨hk.1,⟨hk.2.1,⟨hk.2.2.2.1,⟨hk.2.2.2.2.1,hk.2.2.2.2.2⟩⟩⟩⟩,hk.2.2.1⟩))).2.1 (Kd.V_F (Kd.V_mono (ok':=(fun k_=>((fun k_=>((b5 k_∨b6 k_∨b7 k_∨b8 k_∨b9 k_∨c0 k_)∨w.heap.size≤k_)∧some k_≠(.slice d0 b3.length c1:Value).ownBlock∧k_≠b1∧k_≠b2∧k_≠b4)) k_∧some k_≠(h3:Value).ownBlock)) (p8.out) (fun k_ hk=>⟨⟨hk.1,⟨hk.2.1,⟨hk.2.2.2.1,⟨hk.2.2.2.2.1,hk.2.2.2.2.2⟩⟩⟩⟩,hk.2.2.1⟩))) (Kd.V_reads' (Kd.V_mono (ok':=(fun k_=>((fun k_=>((b5 k_∨b6 k_∨b7 k_∨b8 k_∨b9 k_∨c0 k_)∨w.heap.size≤k_)∧some k_≠(.slice d0 b3.length c1:Value).ownBlock∧k_≠b1∧k_≠b2∧k_≠b4)) k_∧some k_≠(h3:Value).ownBlock)) (p9.out) (fun k_ hk=>⟨⟨hk.1,⟨hk.2.1,⟨hk.2.2.2.1,⟨hk.2.2.2.2.1,hk.2.2.2.2.2⟩⟩⟩⟩,hk.2.2.1⟩))).2.1 (Kd.V_F (Kd.V_mono (ok':=(fun k_=>((fun k_=>((b5 k_∨b6 k_∨b7 k_∨b8 k_∨b9 k_∨c0 k_)∨w.heap.size≤k_)∧some k_≠(.slice d0 b3.length c1:Value).ownBlock∧k_≠b1∧k_≠b2∧k_≠b4)) k_∧some k_≠(h3:Value).ownBlock)) (p9.out) (fun k_ hk=>⟨⟨hk.1,⟨hk.2.1,⟨hk.2.2.2.1,⟨hk.2.2.2.2.1,hk.2.2.2.2.2⟩⟩⟩⟩,hk.2.2.1⟩)))))
       (case aB=>exact (belowP HB))
       (case aF=>exact (fun k_ hk=>⟨(.inr (Nat.le_trans (below_size (belowP HB)) hk)),Kd.fresh' (Kd.N_lt (by (with_reducible repeat (first|apply Kd.N_alloc|apply Kd.N_drewN|apply Kd.N_drew));exact f1.out)) k_ hk,Kd.freshB (blkP b0) k_ hk,Kd.freshB (blkP d5) k_ hk,Kd.freshB (blkP e4) k_ hk⟩))
       (case aO=>exact (by (with_reducible repeat (first|apply Kd.N_alloc|apply Kd.N_drewN|apply Kd.N_drew));exact k7.out))
       (case aS=>exact (below_size (belowP HB)))
       (case aL=>have:=LMc42.out;omega)
       intro m3 aY ho hb hg hat
       rw [← U4.out] at ho
       refine ap16 (Kd.V_afterv (ok:=(fun k_=>((b5 k_∨b6 k_∨b7 k_∨b8 k_∨b9 k_∨c0 k_)∨w.heap.size≤k_)∧some k_≠(.slice d0 b3.length c1:Value).ownBlock∧k_≠b1∧k_≠b2∧k_≠b4)) (by (with_reducible repeat (first|apply Kd.V_alloc|apply Kd.V_drewN|apply Kd.V_drew));exact e8.out) hg hat) (Kd.V_afterv (ok:=(fun k_=>((b5 k_∨b6 k_∨b7 k_∨b8 k_∨b9 k_∨c0 k_)∨w.heap.size≤k_)∧some k_≠(.slice d0 b3.length c1:Value).ownBlock∧k_≠b1∧k_≠b2∧k_≠b4)) (by (with_reducible repeat (first|apply Kd.V_alloc|apply Kd.V_drewN|apply Kd.V_drew));exact e9.out) hg hat) (Kd.V_afterv (ok:=(fun k_=>((b5 k_∨b6 k_∨b7 k_∨b8 k_∨b9 k_∨c0 k_)∨w.heap.size≤k_)∧some k_≠(.slice d0 b3.length c1:Value).ownBlock∧k_≠b1∧k_≠b2∧k_≠b4)) (by (with_reducible repeat (first|apply Kd.V_alloc|apply Kd.V_drewN|apply Kd.V_drew));exact e5.out) hg hat) (Kd.V_afterv (ok:=(fun k_=>((b5 k_∨b6 k_∨b7 k_∨b8 k_∨b9 k_∨c0 k_)∨w.heap.size≤k_)∧some k_≠(.slice d0 b3.length c1:Value).ownBlock∧k_≠b1∧k_≠b2∧k_≠b4)) (by (with_reducible repeat (first|apply Kd.V_alloc|apply Kd.V_drewN|apply Kd.V_drew));exact e6.out) hg hat) (Kd.V_afterv (ok:=(fun k_=>((b5 k_∨b6 k_∨b7 k_∨b8 k_∨b9 k_∨c0 k_)∨w.heap.size≤k_)∧some k_≠(.slice d0 b3.length c1:Value).ownBlock∧k_≠b1∧k_≠b2∧k_≠b4)) (by (with_reducible repeat (first|apply Kd.V_alloc|apply Kd.V_drewN|apply Kd.V_drew));exact e3.out) hg hat) (Kd.V_afterv (ok:=(fun k_=>((b5 k_∨b6 k_∨b7 k_∨b8 k_∨b9 k_∨c0 k_)∨w.heap.size≤k_)∧some k_≠(.slice d0 b3.length c1:Value).ownBlock∧k_≠b1∧k_≠b2∧k_≠b4)) (by (with_reducible repeat (first|apply Kd.V_alloc|apply Kd.V_drewN|apply Kd.V_drew));exact e7.out) hg hat) (Kd.N_afterv (ok:=(fun k_=>((b5 k_∨b6 k_∨b7 k_∨b8 k_∨b9 k_∨c0 k_)∨w.heap.size≤k_)∧k_≠b1∧k_≠b2∧k_≠b4)) (by (with_reducible repeat (first|apply Kd.N_alloc|apply Kd.N_drewN|apply Kd.N_drew));exact f1.out) hg hat) (blk_grown (blkP b0) hg (Kd.N_ne k7.out b0.out (by decide))) (blk_grown (blkP d5) hg (Kd.N_ne k7.out d5.out (by decide))) (blk_grown (blkP e4) hg (Kd.N_ne k7.out e4.out (by decide))) (Kd.V_afterv (ok:=(fun k_=>((b5 k_∨b6 k_∨b7 k_∨b8 k_∨b9 k_∨c0 k_)∨w.heap.size≤k_)∧some k_≠(.slice d0 b3.length c1:Value).ownBlock∧k_≠b1∧k_≠b2∧k_≠b4)) (by (with_reducible repeat (first|apply Kd.V_alloc|apply Kd.V_drewN|apply Kd.V_drew));exact Kd.V_mono p6.out (fun _ hk=>⟨⟨hk.1,⟨hk.2.1,⟨hk.2.2.2.1,⟨hk.2.2.2.2.1,hk.2.2.2.2.2⟩⟩⟩⟩,hk.2.2.1⟩)) hg hat) (Kd.V_afterv (ok:=(fun k_=>((b5 k_∨b6 k_∨b7 k_∨b8 k_∨b9 k_∨c0 k_)∨w.heap.size≤k_)∧some k_≠(.slice d0 b3.length c1:Value).ownBlock∧k_≠b1∧k_≠b2∧k_≠b4)) (by (with_reducible repeat (first|apply Kd.V_alloc|apply Kd.V_drewN|apply Kd.V_drew));exact Kd.V_mono p7.out (fun _ hk=>⟨⟨hk.1,⟨hk.2.1,⟨hk.2.2.2.1,⟨hk.2.2.2.2.1,hk.2.2.2.2.2⟩⟩⟩⟩,hk.2.2.1⟩)) hg hat) (Kd.V_afterv (ok:=(fun k_=>((b5 k_∨b6 k_∨b7 k_∨b8 k_∨b9 k_∨c0 k_)∨w.heap.size≤k_)∧some k_≠(.slice d0 b3.length c1:Value).ownBlock∧k_≠b1∧k_≠b2∧k_≠b4)) (by (with_reducible repeat (first|apply Kd.V_alloc|apply Kd.V_drewN|apply Kd.V_drew));exact Kd.V_mono p8.out (fun _ hk=>⟨⟨hk.1,⟨hk.2.1,⟨hk.2.2.2.1,⟨hk.2.2.2.2.1,hk.2.2.2.2.2⟩⟩⟩⟩,hk.2.2.1⟩)) hg hat) (Kd.V_afterv (ok:=(fun k_=>((b5 k_∨b6 k_∨b7 k_∨b8 k_∨b9 k_∨c0 k_)∨w.heap.size≤k_)∧some k_≠(.slice d0 b3.length c1:Value).ownBlock∧k_≠b1∧k_≠b2∧k_≠b4)) (by (with_reducible repeat (first|apply Kd.V_alloc|apply Kd.V_drewN|apply Kd.V_drew));exact Kd.V_mono p9.out (fun _ hk=>⟨⟨hk.1,⟨hk.2.1,⟨hk.2.2.2.1,⟨hk.2.2.2.2.1,hk.2.2.2.2.2⟩⟩⟩⟩,hk.2.2.1⟩)) hg hat) (hb) (ho) ?_
       clear e8 e9 e5 e6 e3 e7 f1 b0 d5 e4 p6 p7 p8 p9 HB k7
       intro e8 e9 e5 e6 e3 e7 f1 b0 d5 e4 p6 p7 p8 p9 HB V3
       clear ho hb hg hat
       refine hK.out _ _ ⟨(blk_cell b0.out 0).trans rfl,(blk_cell b0.out 1).trans rfl,(blk_cell b0.out 2).trans rfl,(blk_cell b0.out 3).trans rfl,(blk_cell b0.out 4).trans rfl,(blk_cell b0.out 5).trans rfl,(blk_cell b0.out 6).trans rfl,(blk_cell b0.out 7).trans rfl,(blk_cell b0.out 8).trans rfl,(blk_cell b0.out 9).trans rfl,(blk_cell b0.out 10).trans rfl,(blk_cell b0.out 11).trans rfl⟩ (fun hHeld=>?_)
       clear hK K
       refine norm_ (a':=?_) ?_ ?_
       rotate_left
       ·show Act.put _ (some 44) _=_
        simp only [Act.put,List.setIfInBounds_toArray,List.set_cons_zero,List.set_cons_succ,i64_w,i32_w]
        rfl
       refine pure_ (i:=7) (N:=some 6) #[true,true,true,true,true,true,true,true] rfl rfl (any_of HT_.out (by kernel_rfl)) (fun _ _ _ h=>h) (Or.inl ⟨by rfl,tz4⟩) tz1 ?_
       refine done_ (done_of HT_.out (by kernel_rfl)) ?_
       have aZ:=m6.out
       have bA:=l7.out
       have bB:=n9.out
       have bC:=m8.out
       obtain ⟨V4,V5,V6,V7,V8,V9,W0,W1,W2,W3,W4,W5⟩:=cells12 b0.out
       obtain ⟨W6,W7,W8,W9,X0,X1,X2,X3,X4,X5,X6,X7⟩:=froz12 b0.out
       try go_wp2
       go_loopg [48] k2 (fun kq X8 w'=>∃ (g0:Int) (g7:List ByteArray) (o1:Value),X8 = .int .i64 g0∧Aside0 (nomination_settled.l1 kq h9 d9 (d9.length:Int) g0 d3 d6 d7 d8 e0 d1 d2 e1 f0 d9 g7 d4 b3=some (r1,r2,r3,r4,r5,r6,r7,r8,r9,r10,r11,r12))∧Aside0 (kq≤k2)∧Aside0 (Kd.N k48 48 w' w.heap.size (fun k_=>((b5 k_∨b6 k_∨b7 k_∨b8 k_∨b9 k_∨c0 k_)∨w.heap.size≤k_)∧some k_≠((.slice d0 b3.length c1):Value).ownBlock∧k_≠b1∧k_≠b2∧k_≠b4) m3 h9)∧Aside0 (Kd.V Kd.string 9 w' w.heap.size (fun k_=>((b5 k_∨b6 k_∨b7 k_∨b8 k_∨b9 k_∨c0 k_)∨w.heap.size≤k_)∧some k_≠(m3:Value).ownBlock∧some k_≠((.slice d0 b3.length c1):Value).ownBlock∧k_≠b1∧k_≠b2∧k_≠b4) (.slice i9 d9.length h4) d9)∧Aside0 (Kd.V (Kd.int .i64) 3 w' w.heap.size (fun k_=>((b5 k_∨b6 k_∨b7 k_∨b8 k_∨b9 k_∨c0 k_)∨w.heap.size≤k_)∧some k_≠(m3:Value).ownBlock∧some k_≠((.slice d0 b3.length c1):Value).ownBlock∧k_≠b1∧k_≠b2∧k_≠b4) (.slice f4 d1.length f2) d1)∧Aside0 (Kd.V k30 30 w' w.heap.size (fun k_=>((b5 k_∨b6 k_∨b7 k_∨b8 k_∨b9 k_∨c0 k_)∨w.heap.size≤k_)∧some k_≠(m3:Value).ownBlock∧some k_≠((.slice d0 b3.length c1):Value).ownBlock∧k_≠b1∧k_≠b2∧k_≠b4) (.slice f5 d2.length f3) d2)∧Aside0 (Kd.V Kd.string 9 w' w.heap.size (fun k_=>((b5 k_∨b6 k_∨b7 k_∨b8 k_∨b9 k_∨c0 k_)∨w.heap.size≤k_)∧some k_≠(m3:Value).ownBlock∧some k_≠((.slice d0 b3.length c1):Value).ownBlock∧k_≠b1∧k_≠b2∧k_≠b4) (.slice g1 f0.length f9) f0)∧Aside0 (Kd.V Kd.string 9 w' w.heap.size (fun k_=>((b5 k_∨b6 k_∨b7 k_∨b8 k_∨b9 k_∨c0 k_)∨w.heap.size≤k_)∧some k_≠(m3:Value).ownBlock∧some k_≠((.slice d0 b3.length c1):Value).ownBlock∧k_≠b1∧k_≠b2∧k_≠b4) (.slice i9 d9.length h4) d9)∧Aside0 (Kd.V Kd.string 9 w' w.heap.size (fun k_=>((b5 k_∨b6 k_∨b7 k_∨b8 k_∨b9 k_∨c0 k_)∨w.heap.size≤k_)∧some k_≠(m3:Value).ownBlock∧some k_≠((.slice d0 b3.length c1):Value).ownBlock∧k_≠b1∧k_≠b2∧k_≠b4) o1 g7)∧Aside0 (Kd.V k48 48 w' w.heap.size (fun k_=>((b5 k_∨b6 k_∨b7 k_∨b8 k_∨b9 k_∨c0 k_)∨w.heap.size≤k_)∧some k_≠(m3:Value).ownBlock∧some k_≠((.slice d0 b3.length c1):Value).ownBlock∧k_≠b1∧k_≠b2∧k_≠b4) (.slice f7 d4.length f6) d4)∧Aside0 (Kd.N k87 87 w' w.heap.size (fun k_=>((b5 k_∨b6 k_∨b7 k_∨b8 k_∨b9 k_∨c0 k_)∨w.heap.size≤k_)∧some k_≠(m3:Value).ownBlock∧k_≠b1∧k_≠b2∧k_≠b4) (.slice d0 b3.length c1) b3)∧Aside0 (w'.heap[b1]? = some (.cells #[.int .i64 d3,.int .i64 d6,.int .i64 d7,.int .i64 d8,.int .i64 e0,(.slice f4 d1.length f2),(.slice f5 d2.length f3),.string e1,(.slice g1 f0.length f9),(.slice i9 d9.length h4),o1,(.slice f7 d4.length f6)] 33 (0,0)))∧Aside0 (w'.heap[b2]? = some (.cells #[.int .i64 0,.int .i64 0,.int .i64 0,.int .i64 0,.int .i64 0,(.slice none 0 0),(.slice none 0 0),.string (⟨#[]⟩:ByteArray),(.slice none 0 0),(.slice none 0 0),(.slice none 0 0),(.slice none 0 0)] 33 (0,0)))∧Aside0 (w'.heap[b4]? = some (.cells #[(.slice d0 b3.length c1)] 53 (0,0)))∧Aside0 (Below w.heap.size w w'))
       case atStart=>exact ⟨(0),(e2),(.slice g6 e2.length g4),tz3,H',⟨Nat.le_refl _⟩,⟨by (with_reducible repeat (first|apply Kd.N_alloc|apply Kd.N_drewN|apply Kd.N_drew));exact V3.out⟩,⟨by (with_reducible repeat (first|apply Kd.V_alloc|apply Kd.V_drewN|apply Kd.V_drew));exact Kd.V_mono e6.out (fun _ hk=>⟨hk.1.1,⟨hk.2,⟨hk.1.2.1,⟨hk.1.2.2.1,⟨hk.1.2.2.2.1,hk.1.2.2.2.2⟩⟩⟩⟩⟩)⟩,⟨by (with_reducible repeat (first|apply Kd.V_alloc|apply Kd.V_drewN|apply Kd.V_drew));exact Kd.V_mono e8.out (fun _ hk=>⟨hk.1.1,⟨hk.2,⟨hk.1.2.1,⟨hk.1.2.2.1,⟨hk.1.2.2.2.1,hk.1.2.2.2.2⟩⟩⟩⟩⟩)⟩,⟨by (with_reducible repeat (first|apply Kd.V_alloc|apply Kd.V_drewN|apply Kd.V_drew));exact Kd.V_mono e9.out (fun _ hk=>⟨hk.1.1,⟨hk.2,⟨hk.1.2.1,⟨hk.1.2.2.1,⟨hk.1.2.2.2.1,hk.1.2.2.2.2⟩⟩⟩⟩⟩)⟩,⟨by (with_reducible repeat (first|apply Kd.V_alloc|apply Kd.V_drewN|apply Kd.V_drew));exact Kd.V_mono e5.out (fun _ hk=>⟨hk.1.1,⟨hk.2,⟨hk.1.2.1,⟨hk.1.2.2.1,⟨hk.1.2.2.2.1,hk.1.2.2.2.2⟩⟩⟩⟩⟩)⟩,⟨by (with_reducible repeat (first|apply Kd.V_alloc|apply Kd.V_drewN|apply Kd.V_drew));exact Kd.V_mono e6.out (fun _ hk=>⟨hk.1.1,⟨hk.2,⟨hk.1.2.1,⟨hk.1.2.2.1,⟨hk.1.2.2.2.1,hk.1.2.2.2.2⟩⟩⟩⟩⟩)⟩,⟨by (with_reducible repeat (first|apply Kd.V_alloc|apply Kd.V_drewN|apply Kd.V_drew));exact Kd.V_mono e3.out (fun _ hk=>⟨hk.1.1,⟨hk.2,⟨hk.1.2.1,⟨hk.1.2.2.1,⟨hk.1.2.2.2.1,hk.1.2.2.2.2⟩⟩⟩⟩⟩)⟩,⟨by (with_reducible repeat (first|apply Kd.V_alloc|apply Kd.V_drewN|apply Kd.V_drew));exact Kd.V_mono e7.out (fun _ hk=>⟨hk.1.1,⟨hk.2,⟨hk.1.2.1,⟨hk.1.2.2.1,⟨hk.1.2.2.2.1,hk.1.2.2.2.2⟩⟩⟩⟩⟩)⟩,⟨by (with_reducible repeat (first|apply Kd.N_alloc|apply Kd.N_drewN|apply Kd.N_drew));exact Kd.N_mono f1.out (fun _ hk=>⟨hk.1.1,⟨hk.2,⟨hk.1.2.1,⟨hk.1.2.2.1,hk.1.2.2.2⟩⟩⟩⟩)⟩,⟨by refine blkQ ?_;exact b0.out⟩,⟨by refine blkQ ?_;exact d5.out⟩,⟨by refine blkQ ?_;exact e4.out⟩,⟨by repeat (first|(with_reducible first|exact HB.out|apply below_alloc|apply pw_below_drewN|apply below_drew1|refine below_set ?_ m4.out|refine below_set ?_ m5.out|refine below_set ?_ o6.out)|exact HB.out)⟩⟩
       case round=>
        clear H'
        try clear c7
        try clear m7
        try clear s1
        try clear D6
        try clear r0
        try clear s0
        try clear w6
        try clear w7
        try clear x9
        try clear z0
        try clear w8
        try clear w9
        try clear x0
        try clear x1
        try clear x2
        try clear x3
        try clear x7
        try clear x8
        try clear A3
        try clear A4
        try clear C2
        try clear C3
        try clear A5
        try clear A6
        try clear A7
        try clear A9
        try clear B0
        try clear B2
        try clear C0
        try clear C1
        try clear F9
        try clear G0
        try clear G9
        try clear H0
        try clear G1
        try clear G2
        try clear G3
        try clear G4
        try clear G5
        try clear G6
        try clear G7
        try clear G8
        try clear I3
        try clear I5
        try clear I6
        try clear J5
        try clear J6
        try clear I7
        try clear I8
        try clear I9
        try clear J0
        try clear J1
        try clear J2
        try clear J3
        try clear J4
        try clear O2
        try clear O3
        try clear P2
        try clear P3
        try clear O4
        try clear O5
        try clear O6
        try clear O7
        try clear O8
        try clear O9
        try clear P0
        try clear P1
        try clear Q8
        try clear Q9
        try clear R8
        try clear R9
        try clear R0
        try clear R1
        try clear R2
        try clear R3
        try clear R4
        try clear R5
        try clear R6
        try clear R7
        try clear U0
        try clear V4
        try clear V5
        try clear W4
        try clear W5
        try clear V6
        try clear V7
        try clear V8
        try clear V9
        try clear W0
        try clear W1
        try clear W2
        try clear W3
        try clear t4
        try clear t5
        try clear u4
        try clear u5
        try clear t6
        try clear t7
        try clear t8
        try clear t9
        try clear u0
        try clear u1
        try clear u2
        try clear u3
        try clear z1
        try clear z2
        try clear A1
        try clear A2
        try clear z3
        try clear z4
        try clear z5
        try clear z6
        try clear z7
        try clear z8
        try clear z9
        try clear A0
        try clear C4
        try clear C5
        try clear D4
        try clear D5
        try clear C6
        try clear C7
        try clear C8
        try clear C9
        try clear D0
        try clear D1
        try clear D2
        try clear D3
        try clear H1
        try clear H2
        try clear I1
        try clear I2
        try clear H3
        try clear H4
        try clear H5
        try clear H6
        try clear H7
        try clear H8
        try clear H9
        try clear I0
        try clear I4
        try clear J7
        try clear J8
        try clear K7
        try clear K8
        try clear J9
        try clear K0
        try clear K1
        try clear K2
        try clear K3
        try clear K4
        try clear K5
        try clear K6
        try clear P4
        try clear P5
        try clear Q4
        try clear Q5
        try clear P6
        try clear P7
        try clear P8
        try clear P9
        try clear Q0
        try clear Q1
        try clear Q2
        try clear Q3
        try clear S0
        try clear S1
        try clear T0
        try clear T2
        try clear S2
        try clear S3
        try clear S4
        try clear S5
        try clear S6
        try clear S7
        try clear S8
        try clear S9
        try clear U1
        try clear W6
        try clear W7
        try clear X6
        try clear X7
        try clear W8
        try clear W9
        try clear X0
        try clear X1
        try clear X2
        try clear X3
        try clear X4
        try clear X5
        try clear u6
        try clear u7
        try clear v9
        try clear w2
        try clear u9
        try clear v0
        try clear v1
        try clear v2
        try clear v3
        try clear v6
        try clear v7
        try clear v8
        try clear e8
        try clear e9
        try clear e5
        try clear e6
        try clear e3
        try clear e7
        try clear f1
        try clear b0
        try clear d5
        try clear e4
        try clear HB
        obtain ⟨g0,g7,o1,rfl,HA,s4,g5,h1,e8,e9,e5,e6,e3,e7,f1,b0,d5,e4,HB⟩:=hrel
        cases gk with
        | zero=>exact absurd HA.out (by simp [nomination_settled.l1])
        | succ k3=>
         have H:=HA.out
         clear HA
         simp only [nomination_settled.l1] at H
         by_cases q0:g0 < (d9.length:Int)
         ·rw [if_pos q0] at H
          have X9:decide (g0 < (d9.length:Int))=true:=decide_eq_true q0
          clear q0
          by_cases s5:0≤g0
          ·rw [if_pos s5] at H
           have bD:decide (0≤g0)=true:=decide_eq_true s5
           clear s5
           by_cases s6:g0 < (d9.length:Int)
           ·rw [if_pos s6] at H
            have bE:decide (g0 < (d9.length:Int))=true:=decide_eq_true s6
            clear s6
            replace H:=Option.bind_eq_some_iff.mp H
            obtain ⟨⟨M1,o2⟩,M2,H⟩:=H
            replace H:((federated_Confirms.f k3 b3 d3 o2).bind fun o5=>(if o5=true then ((nomination_put.f k3 g7 (rdOf ByteArray.empty d9 g0)).bind fun g8=>(nomination_settled.l1 k3 h9 d9 (d9.length:Int) (wrap64 (g0 + 1)) d3 d6 d7 d8 e0 d1 d2 e1 f0 d9 g8 d4 b3)) else (nomination_settled.l1 k3 h9 d9 (d9.length:Int) (wrap64 (g0 + 1)) d3 d6 d7 d8 e0 d1 d2 e1 f0 d9 g7 d4 b3)))=some (r1,r2,r3,r4,r5,r6,r7,r8,r9,r10,r11,r12):=H
            have M3:=Aside0.mk M2
            clear M2
            replace H:=Option.bind_eq_some_iff.mp H
            obtain ⟨o5,M4,H⟩:=H
            replace H:(if o5=true then ((nomination_put.f k3 g7 (rdOf ByteArray.empty d9 g0)).bind fun g8=>(nomination_settled.l1 k3 h9 d9 (d9.length:Int) (wrap64 (g0 + 1)) d3 d6 d7 d8 e0 d1 d2 e1 f0 d9 g8 d4 b3)) else (nomination_settled.l1 k3 h9 d9 (d9.length:Int) (wrap64 (g0 + 1)) d3 d6 d7 d8 e0 d1 d2 e1 f0 d9 g7 d4 b3))=some (r1,r2,r3,r4,r5,r6,r7,r8,r9,r10,r11,r12):=H
            have M5:=Aside0.mk M4
            clear M4
            by_cases s7:o5=true
            ·subst s7
             rw [if_pos rfl] at H
             replace H:=Option.bind_eq_some_iff.mp H
             obtain ⟨g8,M6,H⟩:=H
             replace H:(nomination_settled.l1 k3 h9 d9 (d9.length:Int) (wrap64 (g0 + 1)) d3 d6 d7 d8 e0 d1 d2 e1 f0 d9 g8 d4 b3)=some (r1,r2,r3,r4,r5,r6,r7,r8,r9,r10,r11,r12):=H
             have Y0:=Aside0.mk M6
             clear M6
             have H':=Aside0.mk H
             clear H
             have o3:0≤(g0:Int):=of_decide_eq_true tz2
             have o4:g0 < (d9.length:Int):=of_decide_eq_true tz2
             obtain ⟨q1,E4,Y1⟩:=Kd.at_string (Kd.V_reads' h1.out).2.2 g0 o3 o4
             cases E4
             replace o3:=eq_true o3
             replace o4:=eq_true o4
             obtain ⟨E5,E6,Y2⟩:=Kd.N_slice g5.out
             subst Y2
             go_wp2_with (first|((with_reducible refine gate_callee (f:=29) rfl ?_);refine goesL_ (some 55) rfl rfl Try.func29 (by kernel_rfl) rfl #[.slice E5 h9.length E6,.string (rdOf ByteArray.empty d9 g0)] rfl tz0 ?_;(with_reducible refine (nomination_saying.calls k3 _ _ h9 (rdOf ByteArray.empty d9 g0) M1 o2 _ ?side1 ?side2 M3.out).mono ?_);(case side1=>exact Kd.C_q ((Kd.N_reads' g5.out).2.2));(case side2=>exact (Kd.N_reads' g5.out).2.1);rintro e j2 ⟨rfl,hb⟩;refine ⟨_,rfl,?_⟩;refine ap13 (Kd.N_below (by (with_reducible repeat (first|apply Kd.N_alloc|apply Kd.N_drewN|apply Kd.N_drew));exact g5.out) hb) (Kd.V_below (by (with_reducible repeat (first|apply Kd.V_alloc|apply Kd.V_drewN|apply Kd.V_drew));exact h1.out) hb) (Kd.V_below (by (with_reducible repeat (first|apply Kd.V_alloc|apply Kd.V_drewN|apply Kd.V_drew));exact e8.out) hb) (Kd.V_below (by (with_reducible repeat (first|apply Kd.V_alloc|apply Kd.V_drewN|apply Kd.V_drew));exact e9.out) hb) (Kd.V_below (by (with_reducible repeat (first|apply Kd.V_alloc|apply Kd.V_drewN|apply Kd.V_drew));exact e5.out) hb) (Kd.V_below (by (with_reducible repeat (first|apply Kd.V_alloc|apply Kd.V_drewN|apply Kd.V_drew));exact e6.out) hb) (Kd.V_below (by (with_reducible repeat (first|apply Kd.V_alloc|apply Kd.V_drewN|apply Kd.V_drew));exact e3.out) hb) (Kd.V_below (by (with_reducible repeat (first|apply Kd.V_alloc|apply Kd.V_drewN|apply Kd.V_drew));exact e7.out) hb) (Kd.N_below (by (with_reducible repeat (first|apply Kd.N_alloc|apply Kd.N_drewN|apply Kd.N_drew));exact f1.out) hb) (blk_below (blkP b0) hb) (blk_below (blkP d5) hb) (blk_below (blkP e4) hb) (below_step (belowP HB) hb) ?_;clear g5 h1 e8 e9 e5 e6 e3 e7 f1 b0 d5 e4 HB;intro g5 h1 e8 e9 e5 e6 e3 e7 f1 b0 d5 e4 HB;have bF:=m8.out;have bG:=n9.out;have bH:=q8.out;have bI:=o7.out;have bJ:j2.cell? ⟨b4,0,none⟩=some (.slice d0 b3.length c1):=(blk_cell e4.out 0).trans rfl;have bK:=blk_frozen e4.out 0;have bL:=m6.out;have bM:=l7.out;have bN:j2.cell? ⟨b1,0,none⟩=some (.int .i64 d3):=(blk_cell b0.out 0).trans rfl;have bO:j2.cell? ⟨b1,1,none⟩=some (.int .i64 d6):=(blk_cell b0.out 1).trans rfl;have bP:j2.cell? ⟨b1,2,none⟩=some (.int .i64 d7):=(blk_cell b0.out 2).trans rfl;have bQ:j2.cell? ⟨b1,3,none⟩=some (.int .i64 d8):=(blk_cell b0.out 3).trans rfl;have bR:j2.cell? ⟨b1,4,none⟩=some (.int .i64 e0):=(blk_cell b0.out 4).trans rfl;have bS:j2.cell? ⟨b1,5,none⟩=some (.slice f4 d1.length f2):=(blk_cell b0.out 5).trans rfl;have bT:j2.cell? ⟨b1,6,none⟩=some (.slice f5 d2.length f3):=(blk_cell b0.out 6).trans rfl;have bU:j2.cell? ⟨b1,7,none⟩=some (.string e1):=(blk_cell b0.out 7).trans rfl;have bV:j2.cell? ⟨b1,8,none⟩=some (.slice g1 f0.length f9):=(blk_cell b0.out 8).trans rfl;have bW:j2.cell? ⟨b1,9,none⟩=some (.slice (some q1) d9.length h4):=(blk_cell b0.out 9).trans rfl;have bX:j2.cell? ⟨b1,10,none⟩=some (o1):=(blk_cell b0.out 10).trans rfl;have bY:j2.cell? ⟨b1,11,none⟩=some (.slice f7 d4.length f6):=(blk_cell b0.out 11).trans rfl;have bZ:=blk_frozen b0.out 0;have cA:=blk_frozen b0.out 1;have cB:=blk_frozen b0.out 2;have cC:=blk_frozen b0.out 3;have cD:=blk_frozen b0.out 4;have cE:=blk_frozen b0.out 5;have cF:=blk_frozen b0.out 6;have cG:=blk_frozen b0.out 7;have cH:=blk_frozen b0.out 8;have cI:=blk_frozen b0.out 9;have cJ:=blk_frozen b0.out 10;have cK:=blk_frozen b0.out 11)|((with_reducible refine gate_callee (f:=30) rfl ?_);refine goesL_ (some 62) rfl rfl Try.func30 (by kernel_rfl) rfl #[.agg #[.slice d0 b3.length c1],.int .i64 d3,.int .i64 o2] rfl tz0 ?_;(with_reducible refine (federated_Confirms.calls k3 _ _ b3 d3 o2 true _ ?side1 ?side2 M5.out).mono ?_);(case side1=>exact Kd.C_q ((Kd.N_reads' f1.out).2.2));(case side2=>exact (Kd.N_reads' f1.out).2.1);rintro e k8 ⟨rfl,hb⟩;refine ⟨_,rfl,?_⟩;refine ap13 (Kd.N_below (by (with_reducible repeat (first|apply Kd.N_alloc|apply Kd.N_drewN|apply Kd.N_drew));exact g5.out) hb) (Kd.V_below (by (with_reducible repeat (first|apply Kd.V_alloc|apply Kd.V_drewN|apply Kd.V_drew));exact h1.out) hb) (Kd.V_below (by (with_reducible repeat (first|apply Kd.V_alloc|apply Kd.V_drewN|apply Kd.V_drew));exact e8.out) hb) (Kd.V_below (by (with_reducible repeat (first|apply Kd.V_alloc|apply Kd.V_drewN|apply Kd.V_drew));exact e9.out) hb) (Kd.V_below (by (with_reducible repeat (first|apply Kd.V_alloc|apply Kd.V_drewN|apply Kd.V_drew));exact e5.out) hb) (Kd.V_below (by (with_reducible repeat (first|apply Kd.V_alloc|apply Kd.V_drewN|apply Kd.V_drew));exact e6.out) hb) (Kd.V_below (by (with_reducible repeat (first|apply Kd.V_alloc|apply Kd.V_drewN|apply Kd.V_drew));exact e3.out) hb) (Kd.V_below (by (with_reducible repeat (first|apply Kd.V_alloc|apply Kd.V_drewN|apply Kd.V_drew));exact e7.out) hb) (Kd.N_below (by (with_reducible repeat (first|apply Kd.N_alloc|apply Kd.N_drewN|apply Kd.N_drew));exact f1.out) hb) (blk_below (blkP b0) hb) (blk_below (blkP d5) hb) (blk_below (blkP e4) hb) (below_step (belowP HB) hb) ?_;clear g5 h1 e8 e9 e5 e6 e3 e7 f1 b0 d5 e4 HB;intro g5 h1 e8 e9 e5 e6 e3 e7 f1 b0 d5 e4 HB;have cL:k8.cell? ⟨b1,0,none⟩=some (.int .i64 d3):=(blk_cell b0.out 0).trans rfl;have cM:k8.cell? ⟨b1,1,none⟩=some (.int .i64 d6):=(blk_cell b0.out 1).trans rfl;have cN:k8.cell? ⟨b1,2,none⟩=some (.int .i64 d7):=(blk_cell b0.out 2).trans rfl;have cO:k8.cell? ⟨b1,3,none⟩=some (.int .i64 d8):=(blk_cell b0.out 3).trans rfl;have cP:k8.cell? ⟨b1,4,none⟩=some (.int .i64 e0):=(blk_cell b0.out 4).trans rfl;have cQ:k8.cell? ⟨b1,5,none⟩=some (.slice f4 d1.length f2):=(blk_cell b0.out 5).trans rfl;have cR:k8.cell? ⟨b1,6,none⟩=some (.slice f5 d2.length f3):=(blk_cell b0.out 6).trans rfl;have cS:k8.cell? ⟨b1,7,none⟩=some (.string e1):=(blk_cell b0.out 7).trans rfl;have cT:k8.cell? ⟨b1,8,none⟩=some (.slice g1 f0.length f9):=(blk_cell b0.out 8).trans rfl;have cU:k8.cell? ⟨b1,9,none⟩=some (.slice (some q1) d9.length h4):=(blk_cell b0.out 9).trans rfl;have cV:k8.cell? ⟨b1,10,none⟩=some (o1):=(blk_cell b0.out 10).trans rfl;have cW:k8.cell? ⟨b1,11,none⟩=some (.slice f7 d4.length f6):=(blk_cell b0.out 11).trans rfl;have cX:=blk_frozen b0.out 0;have cY:=blk_frozen b0.out 1;have cZ:=blk_frozen b0.out 2;have dA:=blk_frozen b0.out 3;have dB:=blk_frozen b0.out 4;have dC:=blk_frozen b0.out 5;have dD:=blk_frozen b0.out 6;have dE:=blk_frozen b0.out 7;have dF:=blk_frozen b0.out 8;have dG:=blk_frozen b0.out 9;have dH:=blk_frozen b0.out 10;have dI:=blk_frozen b0.out 11;obtain ⟨E7,E8,Y3⟩:=Kd.V_slice e3.out;subst Y3)|((with_reducible refine gate_callee (f:=26) rfl ?_);refine goesL_ (some 66) rfl rfl Try.func26 (by kernel_rfl) rfl #[.slice E7 g7.length E8,.string (rdOf ByteArray.empty d9 g0)] rfl tz0 ?_;(with_reducible refine (nomination_put.calls k3 (fun k_=>(((b5 k_∨b6 k_∨b7 k_∨b8 k_∨b9 k_∨c0 k_)∨w.heap.size≤k_)∧(some k_≠(.slice E5 h9.length E6:Value).ownBlock∧(some k_≠(.slice d0 b3.length c1:Value).ownBlock∧(k_≠b1∧(k_≠b2∧k_≠b4)))))) _ _ g7 (rdOf ByteArray.empty d9 g0) g8 _ ?side1 Y0.out).mono ?_);(case side1=>exact e3.out);rintro e k9 ⟨dJ,rfl,g3,hb⟩;refine ⟨_,rfl,?_⟩;refine ap14 (Kd.N_below (by (with_reducible repeat (first|apply Kd.N_alloc|apply Kd.N_drewN|apply Kd.N_drew));exact g5.out) hb) (Kd.V_below (by (with_reducible repeat (first|apply Kd.V_alloc|apply Kd.V_drewN|apply Kd.V_drew));exact h1.out) hb) (Kd.V_below (by (with_reducible repeat (first|apply Kd.V_alloc|apply Kd.V_drewN|apply Kd.V_drew));exact e8.out) hb) (Kd.V_below (by (with_reducible repeat (first|apply Kd.V_alloc|apply Kd.V_drewN|apply Kd.V_drew));exact e9.out) hb) (Kd.V_below (by (with_reducible repeat (first|apply Kd.V_alloc|apply Kd.V_drewN|apply Kd.V_drew));exact e5.out) hb) (Kd.V_below (by (with_reducible repeat (first|apply Kd.V_alloc|apply Kd.V_drewN|apply Kd.V_drew));exact e6.out) hb) (Kd.V_below (by (with_reducible repeat (first|apply Kd.V_alloc|apply Kd.V_drewN|apply Kd.V_drew));exact e3.out) hb) (Kd.V_below (by (with_reducible repeat (first|apply Kd.V_alloc|apply Kd.V_drewN|apply Kd.V_drew));exact e7.out) hb) (Kd.N_below (by (with_reducible repeat (first|apply Kd.N_alloc|apply Kd.N_drewN|apply Kd.N_drew));exact f1.out) hb) (Kd.V_lower (Kd.V_mono (ok':=fun k_=>((b5 k_∨b6 k_∨b7 k_∨b8 k_∨b9 k_∨c0 k_)∨w.heap.size≤k_)∧some k_≠(.slice E5 h9.length E6:Value).ownBlock∧some k_≠(.slice d0 b3.length c1:Value).ownBlock∧k_≠b1∧k_≠b2∧k_≠b4) g3 (fun k_ hk_=>⟨Or.elim hk_ (fun hs_=>hs_.1) (fun hn_=>(.inr (Nat.le_trans (below_size (belowP HB)) hn_))),Or.elim hk_ (fun hs_=>hs_.2.1) (fun hn_=>(Kd.fresh' (Kd.N_lt (by (with_reducible repeat (first|apply Kd.N_alloc|apply Kd.N_drewN|apply Kd.N_drew));exact g5.out)) k_ hn_)),Or.elim hk_ (fun hs_=>hs_.2.2.1) (fun hn_=>(Kd.fresh' (Kd.N_lt (by (with_reducible repeat (first|apply Kd.N_alloc|apply Kd.N_drewN|apply Kd.N_drew));exact f1.out)) k_ hn_)),Or.elim hk_ (fun hs_=>hs_.2.2.2.1) (fun hn_=>(Kd.freshB (blkP b0) k_ hn_)),Or.elim hk_ (fun hs_=>hs_.2.2.2.2.1) (fun hn_=>(Kd.freshB (blkP d5) k_ hn_)),Or.elim hk_ (fun hs_=>hs_.2.2.2.2.2) (fun hn_=>(Kd.freshB (blkP e4) k_ hn_))⟩)) (below_size (belowP HB))) (blk_below (blkP b0) hb) (blk_below (blkP d5) hb) (blk_below (blkP e4) hb) (below_step (belowP HB) hb) ?_;clear g5 h1 e8 e9 e5 e6 e3 e7 f1 b0 d5 e4 HB;intro g5 h1 e8 e9 e5 e6 e3 e7 f1 M7 b0 d5 e4 HB;obtain ⟨l9,m0,Y4⟩:=Kd.V_slice M7.out;subst Y4;have dK:k9.cell? ⟨b1,0,none⟩=some (.int .i64 d3):=(blk_cell b0.out 0).trans rfl;have dL:k9.cell? ⟨b1,1,none⟩=some (.int .i64 d6):=(blk_cell b0.out 1).trans rfl;have dM:k9.cell? ⟨b1,2,none⟩=some (.int .i64 d7):=(blk_cell b0.out 2).trans rfl;have dN:k9.cell? ⟨b1,3,none⟩=some (.int .i64 d8):=(blk_cell b0.out 3).trans rfl;have dO:k9.cell? ⟨b1,4,none⟩=some (.int .i64 e0):=(blk_cell b0.out 4).trans rfl;have dP:k9.cell? ⟨b1,5,none⟩=some (.slice f4 d1.length f2):=(blk_cell b0.out 5).trans rfl;have dQ:k9.cell? ⟨b1,6,none⟩=some (.slice f5 d2.length f3):=(blk_cell b0.out 6).trans rfl;have dR:k9.cell? ⟨b1,7,none⟩=some (.string e1):=(blk_cell b0.out 7).trans rfl;have dS:k9.cell? ⟨b1,8,none⟩=some (.slice g1 f0.length f9):=(blk_cell b0.out 8).trans rfl;have dT:k9.cell? ⟨b1,9,none⟩=some (.slice (some q1) d9.length h4):=(blk_cell b0.out 9).trans rfl;have dU:k9.cell? ⟨b1,10,none⟩=some (.slice E7 g7.length E8):=(blk_cell b0.out 10).trans rfl;have dV:k9.cell? ⟨b1,11,none⟩=some (.slice f7 d4.length f6):=(blk_cell b0.out 11).trans rfl;have dW:=blk_frozen b0.out 0;have dX:=blk_frozen b0.out 1;have dY:=blk_frozen b0.out 2;have dZ:=blk_frozen b0.out 3;have eA:=blk_frozen b0.out 4;have eB:=blk_frozen b0.out 5;have eC:=blk_frozen b0.out 6;have eD:=blk_frozen b0.out 7;have eE:=blk_frozen b0.out 8;have eF:=blk_frozen b0.out 9;have eG:=blk_frozen b0.out 10;have eH:=blk_frozen b0.out 11))
             go_roundg k3
             case measure=>have:=HJ1.out;have:=o8.out;have:=s4.out;omega
             case rel=>exact ⟨(wrap64 (g0 + 1)),(g8),(.slice l9 g8.length m0),tz3,H',⟨by have:=HJ1.out;have:=o8.out;have:=s4.out;omega⟩,⟨by (with_reducible repeat (first|apply Kd.N_alloc|apply Kd.N_drewN|apply Kd.N_drew));exact Kd.N_mono (Kd.N_far (p:=⟨b1,10,none⟩) (Kd.N_mono g5.out (fun k_ hk=>(⟨hk,hk.2.2.1⟩:_∧k_≠b1))) (fun _ hk=>hk.2) (.slice l9 g8.length m0)) (fun _ hk=>⟨hk.1.1,⟨hk.1.2.1,⟨hk.1.2.2.1,⟨hk.1.2.2.2.1,hk.1.2.2.2.2⟩⟩⟩⟩)⟩,⟨by (with_reducible repeat (first|apply Kd.V_alloc|apply Kd.V_drewN|apply Kd.V_drew));exact Kd.V_mono (Kd.V_far (p:=⟨b1,10,none⟩) (Kd.V_mono h1.out (fun k_ hk=>(⟨hk,hk.2.2.2.1⟩:_∧k_≠b1))) (fun _ hk=>hk.2) (.slice l9 g8.length m0)) (fun _ hk=>⟨hk.1.1,⟨hk.1.2.1,⟨hk.1.2.2.1,⟨hk.1.2.2.2.1,⟨hk.1.2.2.2.2.1,hk.1.2.2.2.2.2⟩⟩⟩⟩⟩)⟩,⟨by (with_reducible repeat (first|apply Kd.V_alloc|apply Kd.V_drewN|apply Kd.V_drew));exact Kd.V_mono (Kd.V_far (p:=⟨b1,10,none⟩) (Kd.V_mono e8.out (fun k_ hk=>(⟨hk,hk.2.2.2.1⟩:_∧k_≠b1))) (fun _ hk=>hk.2) (.slice l9 g8.length m0)) (fun _ hk=>⟨hk.1.1,⟨hk.1.2.1,⟨hk.1.2.2.1,⟨hk.1.2.2.2.1,⟨hk.1.2.2.2.2.1,hk.1.2.2.2.2.2⟩⟩⟩⟩⟩)⟩,⟨by (with_reducible repeat (first|apply Kd.V_alloc|apply Kd.V_drewN|apply Kd.V_drew));exact Kd.V_mono (Kd.V_far (p:=⟨b1,10,none⟩) (Kd.V_mono e9.out (fun k_ hk=>(⟨hk,hk.2.2.2.1⟩:_∧k_≠b1))) (fun _ hk=>hk.2) (.slice l9 g8.length m0)) (fun _ hk=>⟨hk.1.1,⟨hk.1.2.1,⟨hk.1.2.2.1,⟨hk.1.2.2.2.1,⟨hk.1.2.2.2.2.1,hk.1.2.2.2.2.2⟩⟩⟩⟩⟩)⟩,⟨by (with_reducible repeat (first|apply Kd.V_alloc|apply Kd.V_drewN|apply Kd.V_drew));exact Kd.V_mono (Kd.V_far (p:=⟨b1,10,none⟩) (Kd.V_mono e5.out (fun k_ hk=>(⟨hk,hk.2.2.2.1⟩:_∧k_≠b1))) (fun _ hk=>hk.2) (.slice l9 g8.length m0)) (fun _ hk=>⟨hk.1.1,⟨hk.1.2.1,⟨hk.1.2.2.1,⟨hk.1.2.2.2.1,⟨hk.1.2.2.2.2.1,hk.1.2.2.2.2.2⟩⟩⟩⟩⟩)⟩,⟨by (with_reducible repeat (first|apply Kd.V_alloc|apply Kd.V_drewN|apply Kd.V_drew));exact Kd.V_mono (Kd.V_far (p:=⟨b1,10,none⟩) (Kd.V_mono e6.out (fun k_ hk=>(⟨hk,hk.2.2.2.1⟩:_∧k_≠b1))) (fun _ hk=>hk.2) (.slice l9 g8.length m0)) (fun _ hk=>⟨hk.1.1,⟨hk.1.2.1,⟨hk.1.2.2.1,⟨hk.1.2.2.2.1,⟨hk.1.2.2.2.2.1,hk.1.2.2.2.2.2⟩⟩⟩⟩⟩)⟩,⟨by (with_reducible repeat (first|apply Kd.V_alloc|apply Kd.V_drewN|apply Kd.V_drew));exact Kd.V_mono (Kd.V_far (p:=⟨b1,10,none⟩) (Kd.V_mono M7.out (fun k_ hk=>(⟨hk,hk.2.2.2.1⟩:_∧k_≠b1))) (fun _ hk=>hk.2) (.slice l9 g8.length m0)) (fun _ hk=>⟨hk.1.1,⟨hk.1.2.1,⟨hk.1.2.2.1,⟨hk.1.2.2.2.1,⟨hk.1.2.2.2.2.1,hk.1.2.2.2.2.2⟩⟩⟩⟩⟩)⟩,⟨by (with_reducible repeat (first|apply Kd.V_alloc|apply Kd.V_drewN|apply Kd.V_drew));exact Kd.V_mono (Kd.V_far (p:=⟨b1,10,none⟩) (Kd.V_mono e7.out (fun k_ hk=>(⟨hk,hk.2.2.2.1⟩:_∧k_≠b1))) (fun _ hk=>hk.2) (.slice l9 g8.length m0)) (fun _ hk=>⟨hk.1.1,⟨hk.1.2.1,⟨hk.1.2.2.1,⟨hk.1.2.2.2.1,⟨hk.1.2.2.2.2.1,hk.1.2.2.2.2.2⟩⟩⟩⟩⟩)⟩,⟨by (with_reducible repeat (first|apply Kd.N_alloc|apply Kd.N_drewN|apply Kd.N_drew));exact Kd.N_mono (Kd.N_far (p:=⟨b1,10,none⟩) (Kd.N_mono f1.out (fun k_ hk=>(⟨hk,hk.2.2.1⟩:_∧k_≠b1))) (fun _ hk=>hk.2) (.slice l9 g8.length m0)) (fun _ hk=>⟨hk.1.1,⟨hk.1.2.1,⟨hk.1.2.2.1,⟨hk.1.2.2.2.1,hk.1.2.2.2.2⟩⟩⟩⟩)⟩,⟨by refine blkQ ?_;refine blk_put (cs:=#[.int .i64 d3,.int .i64 d6,.int .i64 d7,.int .i64 d8,.int .i64 e0,.slice f4 d1.length f2,.slice f5 d2.length f3,.string e1,.slice g1 f0.length f9,.slice (some q1) d9.length h4,.slice E7 g7.length E8,.slice f7 d4.length f6]) ?_ 10 _ rfl;refine blkQ ?_;exact b0.out⟩,⟨by refine blkQ ?_;refine blk_far ?_ l7.out _;refine blkQ ?_;exact d5.out⟩,⟨by refine blkQ ?_;refine blk_far ?_ m8.out _;refine blkQ ?_;exact e4.out⟩,⟨by repeat (first|(with_reducible first|exact HB.out|apply below_alloc|apply pw_below_drewN|apply below_drew1|refine below_set ?_ m4.out|refine below_set ?_ m5.out|refine below_set ?_ o6.out)|exact HB.out)⟩⟩
            ·replace s7:=Bool.eq_false_iff.mpr s7
             subst s7
             rw [if_neg (show ¬ (false=true) by decide)] at H
             have H':=Aside0.mk H
             clear H
             have o3:0≤(g0:Int):=of_decide_eq_true tz2
             have o4:g0 < (d9.length:Int):=of_decide_eq_true tz2
             obtain ⟨q1,E4,Y1⟩:=Kd.at_string (Kd.V_reads' h1.out).2.2 g0 o3 o4
             cases E4
             replace o3:=eq_true o3
             replace o4:=eq_true o4
             obtain ⟨Y5,Y6,Y7⟩:=Kd.N_slice g5.out
             subst Y7
             go_wp2_with (first|((with_reducible refine gate_callee (f:=29) rfl ?_);refine goesL_ (some 55) rfl rfl Try.func29 (by kernel_rfl) rfl #[.slice Y5 h9.length Y6,.string (rdOf ByteArray.empty d9 g0)] rfl tz0 ?_;(with_reducible refine (nomination_saying.calls k3 _ _ h9 (rdOf ByteArray.empty d9 g0) M1 o2 _ ?side1 ?side2 M3.out).mono ?_);(case side1=>exact Kd.C_q ((Kd.N_reads' g5.out).2.2));(case side2=>exact (Kd.N_reads' g5.out).2.1);rintro e j3 ⟨rfl,hb⟩;refine ⟨_,rfl,?_⟩;refine ap13 (Kd.N_below (by (with_reducible repeat (first|apply Kd.N_alloc|apply Kd.N_drewN|apply Kd.N_drew));exact g5.out) hb) (Kd.V_below (by (with_reducible repeat (first|apply Kd.V_alloc|apply Kd.V_drewN|apply Kd.V_drew));exact h1.out) hb) (Kd.V_below (by (with_reducible repeat (first|apply Kd.V_alloc|apply Kd.V_drewN|apply Kd.V_drew));exact e8.out) hb) (Kd.V_below (by (with_reducible repeat (first|apply Kd.V_alloc|apply Kd.V_drewN|apply Kd.V_drew));exact e9.out) hb) (Kd.V_below (by (with_reducible repeat (first|apply Kd.V_alloc|apply Kd.V_drewN|apply Kd.V_drew));exact e5.out) hb) (Kd.V_below (by (with_reducible repeat (first|apply Kd.V_alloc|apply Kd.V_drewN|apply Kd.V_drew));exact e6.out) hb) (Kd.V_below (by (with_reducible repeat (first|apply Kd.V_alloc|apply Kd.V_drewN|apply Kd.V_drew));exact e3.out) hb) (Kd.V_below (by (with_reducible repeat (first|apply Kd.V_alloc|apply Kd.V_drewN|apply Kd.V_drew));exact e7.out) hb) (Kd.N_below (by (with_reducible repeat (first|apply Kd.N_alloc|apply Kd.N_drewN|apply Kd.N_drew));exact f1.out) hb) (blk_below (blkP b0) hb) (blk_below (blkP d5) hb) (blk_below (blkP e4) hb) (below_step (belowP HB) hb) ?_;clear g5 h1 e8 e9 e5 e6 e3 e7 f1 b0 d5 e4 HB;intro g5 h1 e8 e9 e5 e6 e3 e7 f1 b0 d5 e4 HB;have eI:=m8.out;have eJ:=n9.out;have eK:=q8.out;have eL:=o7.out;have eM:j3.cell? ⟨b4,0,none⟩=some (.slice d0 b3.length c1):=(blk_cell e4.out 0).trans rfl;have eN:=blk_frozen e4.out 0;have eO:=m6.out;have eP:=l7.out;have eQ:j3.cell? ⟨b1,0,none⟩=some (.int .i64 d3):=(blk_cell b0.out 0).trans rfl;have eR:j3.cell? ⟨b1,1,none⟩=some (.int .i64 d6):=(blk_cell b0.out 1).trans rfl;have eS:j3.cell? ⟨b1,2,none⟩=some (.int .i64 d7):=(blk_cell b0.out 2).trans rfl;have eT:j3.cell? ⟨b1,3,none⟩=some (.int .i64 d8):=(blk_cell b0.out 3).trans rfl;have eU:j3.cell? ⟨b1,4,none⟩=some (.int .i64 e0):=(blk_cell b0.out 4).trans rfl;have eV:j3.cell? ⟨b1,5,none⟩=some (.slice f4 d1.length f2):=(blk_cell b0.out 5).trans rfl;have eW:j3.cell? ⟨b1,6,none⟩=some (.slice f5 d2.length f3):=(blk_cell b0.out 6).trans rfl;have eX:j3.cell? ⟨b1,7,none⟩=some (.string e1):=(blk_cell b0.out 7).trans rfl;have eY:j3.cell? ⟨b1,8,none⟩=some (.slice g1 f0.length f9):=(blk_cell b0.out 8).trans rfl;have eZ:j3.cell? ⟨b1,9,none⟩=some (.slice (some q1) d9.length h4):=(blk_cell b0.out 9).trans rfl;have fA:j3.cell? ⟨b1,10,none⟩=some (o1):=(blk_cell b0.out 10).trans rfl;have fB:j3.cell? ⟨b1,11,none⟩=some (.slice f7 d4.length f6):=(blk_cell b0.out 11).trans rfl;have fC:=blk_frozen b0.out 0;have fD:=blk_frozen b0.out 1;have fE:=blk_frozen b0.out 2;have fF:=blk_frozen b0.out 3;have fG:=blk_frozen b0.out 4;have fH:=blk_frozen b0.out 5;have fI:=blk_frozen b0.out 6;have fJ:=blk_frozen b0.out 7;have fK:=blk_frozen b0.out 8;have fL:=blk_frozen b0.out 9;have fM:=blk_frozen b0.out 10;have fN:=blk_frozen b0.out 11)|((with_reducible refine gate_callee (f:=30) rfl ?_);refine goesL_ (some 62) rfl rfl Try.func30 (by kernel_rfl) rfl #[.agg #[.slice d0 b3.length c1],.int .i64 d3,.int .i64 o2] rfl tz0 ?_;(with_reducible refine (federated_Confirms.calls k3 _ _ b3 d3 o2 false _ ?side1 ?side2 M5.out).mono ?_);(case side1=>exact Kd.C_q ((Kd.N_reads' f1.out).2.2));(case side2=>exact (Kd.N_reads' f1.out).2.1);rintro e fO ⟨rfl,hb⟩;refine ⟨_,rfl,?_⟩;refine ap13 (Kd.N_below (by (with_reducible repeat (first|apply Kd.N_alloc|apply Kd.N_drewN|apply Kd.N_drew));exact g5.out) hb) (Kd.V_below (by (with_reducible repeat (first|apply Kd.V_alloc|apply Kd.V_drewN|apply Kd.V_drew));exact h1.out) hb) (Kd.V_below (by (with_reducible repeat (first|apply Kd.V_alloc|apply Kd.V_drewN|apply Kd.V_drew));exact e8.out) hb) (Kd.V_below (by (with_reducible repeat (first|apply Kd.V_alloc|apply Kd.V_drewN|apply Kd.V_drew));exact e9.out) hb) (Kd.V_below (by (with_reducible repeat (first|apply Kd.V_alloc|apply Kd.V_drewN|apply Kd.V_drew));exact e5.out) hb) (Kd.V_below (by (with_reducible repeat (first|apply Kd.V_alloc|apply Kd.V_drewN|apply Kd.V_drew));exact e6.out) hb) (Kd.V_below (by (with_reducible repeat (first|apply Kd.V_alloc|apply Kd.V_drewN|apply Kd.V_drew));exact e3.out) hb) (Kd.V_below (by (with_reducible repeat (first|apply Kd.V_alloc|apply Kd.V_drewN|apply Kd.V_drew));exact e7.out) hb) (Kd.N_below (by (with_reducible repeat (first|apply Kd.N_alloc|apply Kd.N_drewN|apply Kd.N_drew));exact f1.out) hb) (blk_below (blkP b0) hb) (blk_below (blkP d5) hb) (blk_below (blkP e4) hb) (below_step (belowP HB) hb) ?_;clear g5 h1 e8 e9 e5 e6 e3 e7 f1 b0 d5 e4 HB;intro g5 h1 e8 e9 e5 e6 e3 e7 f1 b0 d5 e4 HB))
             go_roundg k3
             case measure=>have:=HJ1.out;have:=o8.out;have:=s4.out;omega
             case rel=>exact ⟨(wrap64 (g0 + 1)),(g7),(o1),tz3,H',⟨by have:=HJ1.out;have:=o8.out;have:=s4.out;omega⟩,⟨by (with_reducible repeat (first|apply Kd.N_alloc|apply Kd.N_drewN|apply Kd.N_drew));exact g5.out⟩,⟨by (with_reducible repeat (first|apply Kd.V_alloc|apply Kd.V_drewN|apply Kd.V_drew));exact h1.out⟩,⟨by (with_reducible repeat (first|apply Kd.V_alloc|apply Kd.V_drewN|apply Kd.V_drew));exact e8.out⟩,⟨by (with_reducible repeat (first|apply Kd.V_alloc|apply Kd.V_drewN|apply Kd.V_drew));exact e9.out⟩,⟨by (with_reducible repeat (first|apply Kd.V_alloc|apply Kd.V_drewN|apply Kd.V_drew));exact e5.out⟩,⟨by (with_reducible repeat (first|apply Kd.V_alloc|apply Kd.V_drewN|apply Kd.V_drew));exact e6.out⟩,⟨by (with_reducible repeat (first|apply Kd.V_alloc|apply Kd.V_drewN|apply Kd.V_drew));exact e3.out⟩,⟨by (with_reducible repeat (first|apply Kd.V_alloc|apply Kd.V_drewN|apply Kd.V_drew));exact e7.out⟩,⟨by (with_reducible repeat (first|apply Kd.N_alloc|apply Kd.N_drewN|apply Kd.N_drew));exact f1.out⟩,⟨by refine blkQ ?_;exact b0.out⟩,⟨by refine blkQ ?_;exact d5.out⟩,⟨by refine blkQ ?_;exact e4.out⟩,⟨by repeat (first|(with_reducible first|exact HB.out|apply below_alloc|apply pw_below_drewN|apply below_drew1|refine below_set ?_ m4.out|refine below_set ?_ m5.out|refine below_set ?_ o6.out)|exact HB.out)⟩⟩
           ·rw [if_neg s6] at H
            exact absurd H (by simp)
          ·rw [if_neg s5] at H
           exact absurd H (by simp)
         ·rw [if_neg q0] at H
          have X9:decide (g0 < (d9.length:Int))=false:=decide_eq_false q0
          clear q0
          simp only [Option.some.injEq,Prod.mk.injEq] at H
          obtain ⟨rfl,rfl,rfl,rfl,rfl,rfl,rfl,rfl,rfl,rfl,rfl,rfl⟩:=H
          have fP:=m6.out
          have fQ:=l7.out
          have fR:=n9.out
          have fS:=m8.out
          obtain ⟨fT,fU,fV,fW,fX,fY,fZ,gA,gB,gC,gD,gE⟩:=cells12 b0.out
          obtain ⟨gF,gG,gH,gI,gJ,gK,gL,gM,gN,gO,gP,gQ⟩:=froz12 b0.out
          have gR:=o7.out
          have gS:=q8.out
          obtain ⟨gT,gU,gV,gW,gX,gY,gZ,hA,hB,hC,hD,hE⟩:=cells12 d5.out
          obtain ⟨hF,hG,hH,hI,hJ,hL,hM,hN,hO,hP,hQ,hR⟩:=froz12 d5.out
          obtain ⟨m9,n0,Y8⟩:=Kd.V_slice e3.out
          subst Y8
          go_wp2
          refine bodyPost_ret (results_cell_row rfl _ _ b2 33 #[.int .i64 d3,.int .i64 d6,.int .i64 d7,.int .i64 d8,.int .i64 e0,.slice f4 d1.length f2,.slice f5 d2.length f3,.string e1,.slice g1 f0.length f9,.slice i9 d9.length h4,.slice m9 g7.length n0,.slice f7 d4.length f6] (0,0) _ rfl (by refine blkQ ?_;refine blk_put (cs:=#[.int .i64 d3,.int .i64 d6,.int .i64 d7,.int .i64 d8,.int .i64 e0,.slice f4 d1.length f2,.slice f5 d2.length f3,.string e1,.slice g1 f0.length f9,.slice i9 d9.length h4,.slice m9 g7.length n0,.slice none 0 0]) ?_ 11 _ rfl;refine blkQ ?_;refine blk_put (cs:=#[.int .i64 d3,.int .i64 d6,.int .i64 d7,.int .i64 d8,.int .i64 e0,.slice f4 d1.length f2,.slice f5 d2.length f3,.string e1,.slice g1 f0.length f9,.slice i9 d9.length h4,.slice none 0 0,.slice none 0 0]) ?_ 10 _ rfl;refine blkQ ?_;refine blk_put (cs:=#[.int .i64 d3,.int .i64 d6,.int .i64 d7,.int .i64 d8,.int .i64 e0,.slice f4 d1.length f2,.slice f5 d2.length f3,.string e1,.slice g1 f0.length f9,.slice none 0 0,.slice none 0 0,.slice none 0 0]) ?_ 9 _ rfl;refine blkQ ?_;refine blk_put (cs:=#[.int .i64 d3,.int .i64 d6,.int .i64 d7,.int .i64 d8,.int .i64 e0,.slice f4 d1.length f2,.slice f5 d2.length f3,.string e1,.slice none 0 0,.slice none 0 0,.slice none 0 0,.slice none 0 0]) ?_ 8 _ rfl;refine blkQ ?_;refine blk_put (cs:=#[.int .i64 d3,.int .i64 d6,.int .i64 d7,.int .i64 d8,.int .i64 e0,.slice f4 d1.length f2,.slice f5 d2.length f3,.string (⟨#[]⟩:ByteArray),.slice none 0 0,.slice none 0 0,.slice none 0 0,.slice none 0 0]) ?_ 7 _ rfl;refine blkQ ?_;refine blk_put (cs:=#[.int .i64 d3,.int .i64 d6,.int .i64 d7,.int .i64 d8,.int .i64 e0,.slice f4 d1.length f2,.slice none 0 0,.string (⟨#[]⟩:ByteArray),.slice none 0 0,.slice none 0 0,.slice none 0 0,.slice none 0 0]) ?_ 6 _ rfl;refine blkQ ?_;refine blk_put (cs:=#[.int .i64 d3,.int .i64 d6,.int .i64 d7,.int .i64 d8,.int .i64 e0,.slice none 0 0,.slice none 0 0,.string (⟨#[]⟩:ByteArray),.slice none 0 0,.slice none 0 0,.slice none 0 0,.slice none 0 0]) ?_ 5 _ rfl;refine blkQ ?_;refine blk_put (cs:=#[.int .i64 d3,.int .i64 d6,.int .i64 d7,.int .i64 d8,.int .i64 0,.slice none 0 0,.slice none 0 0,.string (⟨#[]⟩:ByteArray),.slice none 0 0,.slice none 0 0,.slice none 0 0,.slice none 0 0]) ?_ 4 _ rfl;refine blkQ ?_;refine blk_put (cs:=#[.int .i64 d3,.int .i64 d6,.int .i64 d7,.int .i64 0,.int .i64 0,.slice none 0 0,.slice none 0 0,.string (⟨#[]⟩:ByteArray),.slice none 0 0,.slice none 0 0,.slice none 0 0,.slice none 0 0]) ?_ 3 _ rfl;refine blkQ ?_;refine blk_put (cs:=#[.int .i64 d3,.int .i64 d6,.int .i64 0,.int .i64 0,.int .i64 0,.slice none 0 0,.slice none 0 0,.string (⟨#[]⟩:ByteArray),.slice none 0 0,.slice none 0 0,.slice none 0 0,.slice none 0 0]) ?_ 2 _ rfl;refine blkQ ?_;refine blk_put (cs:=#[.int .i64 d3,.int .i64 0,.int .i64 0,.int .i64 0,.int .i64 0,.slice none 0 0,.slice none 0 0,.string (⟨#[]⟩:ByteArray),.slice none 0 0,.slice none 0 0,.slice none 0 0,.slice none 0 0]) ?_ 1 _ rfl;refine blkQ ?_;refine blk_put (cs:=#[.int .i64 0,.int .i64 0,.int .i64 0,.int .i64 0,.int .i64 0,.slice none 0 0,.slice none 0 0,.string (⟨#[]⟩:ByteArray),.slice none 0 0,.slice none 0 0,.slice none 0 0,.slice none 0 0]) ?_ 0 _ rfl;refine blkQ ?_;exact d5.out) Try.underlying33 rfl (by kernel_rfl)) rfl ?_
          exact ⟨_,_,_,_,_,_,rE,by (with_reducible repeat (first|apply Kd.V_alloc|apply Kd.V_drewN|apply Kd.V_drew));exact Kd.V_mono (Kd.V_far (p:=⟨b2,11,none⟩) (Kd.V_far (p:=⟨b2,10,none⟩) (Kd.V_far (p:=⟨b2,9,none⟩) (Kd.V_far (p:=⟨b2,8,none⟩) (Kd.V_far (p:=⟨b2,7,none⟩) (Kd.V_far (p:=⟨b2,6,none⟩) (Kd.V_far (p:=⟨b2,5,none⟩) (Kd.V_far (p:=⟨b2,4,none⟩) (Kd.V_far (p:=⟨b2,3,none⟩) (Kd.V_far (p:=⟨b2,2,none⟩) (Kd.V_far (p:=⟨b2,1,none⟩) (Kd.V_far (p:=⟨b2,0,none⟩) (Kd.V_mono e8.out (fun k_ hk=>(⟨hk,hk.2.2.2.2.1⟩:_∧k_≠b2))) (fun _ hk=>hk.2) (.int .i64 d3)) (fun _ hk=>hk.2) (.int .i64 d6)) (fun _ hk=>hk.2) (.int .i64 d7)) (fun _ hk=>hk.2) (.int .i64 d8)) (fun _ hk=>hk.2) (.int .i64 e0)) (fun _ hk=>hk.2) (.slice f4 d1.length f2)) (fun _ hk=>hk.2) (.slice f5 d2.length f3)) (fun _ hk=>hk.2) (.string e1)) (fun _ hk=>hk.2) (.slice g1 f0.length f9)) (fun _ hk=>hk.2) (.slice i9 d9.length h4)) (fun _ hk=>hk.2) (.slice m9 g7.length n0)) (fun _ hk=>hk.2) (.slice f7 d4.length f6)) (fun _ hk=>hk.1.1),by (with_reducible repeat (first|apply Kd.V_alloc|apply Kd.V_drewN|apply Kd.V_drew));exact Kd.V_mono (Kd.V_far (p:=⟨b2,11,none⟩) (Kd.V_far (p:=⟨b2,10,none⟩) (Kd.V_far (p:=⟨b2,9,none⟩) (Kd.V_far (p:=⟨b2,8,none⟩) (Kd.V_far (p:=⟨b2,7,none⟩) (Kd.V_far (p:=⟨b2,6,none⟩) (Kd.V_far (p:=⟨b2,5,none⟩) (Kd.V_far (p:=⟨b2,4,none⟩) (Kd.V_far (p:=⟨b2,3,none⟩) (Kd.V_far (p:=⟨b2,2,none⟩) (Kd.V_far (p:=⟨b2,1,none⟩) (Kd.V_far (p:=⟨b2,0,none⟩) (Kd.V_mono e9.out (fun k_ hk=>(⟨hk,hk.2.2.2.2.1⟩:_∧k_≠b2))) (fun _ hk=>hk.2) (.int .i64 d3)) (fun _ hk=>hk.2) (.int .i64 d6)) (fun _ hk=>hk.2) (.int .i64 d7)) (fun _ hk=>hk.2) (.int .i64 d8)) (fun _ hk=>hk.2) (.int .i64 e0)) (fun _ hk=>hk.2) (.slice f4 d1.length f2)) (fun _ hk=>hk.2) (.slice f5 d2.length f3)) (fun _ hk=>hk.2) (.string e1)) (fun _ hk=>hk.2) (.slice g1 f0.length f9)) (fun _ hk=>hk.2) (.slice i9 d9.length h4)) (fun _ hk=>hk.2) (.slice m9 g7.length n0)) (fun _ hk=>hk.2) (.slice f7 d4.length f6)) (fun _ hk=>hk.1.1),by (with_reducible repeat (first|apply Kd.V_alloc|apply Kd.V_drewN|apply Kd.V_drew));exact Kd.V_mono (Kd.V_far (p:=⟨b2,11,none⟩) (Kd.V_far (p:=⟨b2,10,none⟩) (Kd.V_far (p:=⟨b2,9,none⟩) (Kd.V_far (p:=⟨b2,8,none⟩) (Kd.V_far (p:=⟨b2,7,none⟩) (Kd.V_far (p:=⟨b2,6,none⟩) (Kd.V_far (p:=⟨b2,5,none⟩) (Kd.V_far (p:=⟨b2,4,none⟩) (Kd.V_far (p:=⟨b2,3,none⟩) (Kd.V_far (p:=⟨b2,2,none⟩) (Kd.V_far (p:=⟨b2,1,none⟩) (Kd.V_far (p:=⟨b2,0,none⟩) (Kd.V_mono e5.out (fun k_ hk=>(⟨hk,hk.2.2.2.2.1⟩:_∧k_≠b2))) (fun _ hk=>hk.2) (.int .i64 d3)) (fun _ hk=>hk.2) (.int .i64 d6)) (fun _ hk=>hk.2) (.int .i64 d7)) (fun _ hk=>hk.2) (.int .i64 d8)) (fun _ hk=>hk.2) (.int .i64 e0)) (fun _ hk=>hk.2) (.slice f4 d1.length f2)) (fun _ hk=>hk.2) (.slice f5 d2.length f3)) (fun _ hk=>hk.2) (.string e1)) (fun _ hk=>hk.2) (.slice g1 f0.length f9)) (fun _ hk=>hk.2) (.slice i9 d9.length h4)) (fun _ hk=>hk.2) (.slice m9 g7.length n0)) (fun _ hk=>hk.2) (.slice f7 d4.length f6)) (fun _ hk=>hk.1.1),by (with_reducible repeat (first|apply Kd.V_alloc|apply Kd.V_drewN|apply Kd.V_drew));exact Kd.V_mono (Kd.V_far (p:=⟨b2,11,none⟩) (Kd.V_far (p:=⟨b2,10,none⟩) (Kd.V_far (p:=⟨b2,9,none⟩) (Kd.V_far (p:=⟨b2,8,none⟩) (Kd.V_far (p:=⟨b2,7,none⟩) (Kd.V_far (p:=⟨b2,6,none⟩) (Kd.V_far (p:=⟨b2,5,none⟩) (Kd.V_far (p:=⟨b2,4,none⟩) (Kd.V_far (p:=⟨b2,3,none⟩) (Kd.V_far (p:=⟨b2,2,none⟩) (Kd.V_far (p:=⟨b2,1,none⟩) (Kd.V_far (p:=⟨b2,0,none⟩) (Kd.V_mono e6.out (fun k_ hk=>(⟨hk,hk.2.2.2.2.1⟩:_∧k_≠b2))) (fun _ hk=>hk.2) (.int .i64 d3)) (fun _ hk=>hk.2) (.int .i64 d6)) (fun _ hk=>hk.2) (.int .i64 d7)) (fun _ hk=>hk.2) (.int .i64 d8)) (fun _ hk=>hk.2) (.int .i64 e0)) (fun _ hk=>hk.2) (.slice f4 d1.length f2)) (fun _ hk=>hk.2) (.slice f5 d2.length f3)) (fun _ hk=>hk.2) (.string e1)) (fun _ hk=>hk.2) (.slice g1 f0.length f9)) (fun _ hk=>hk.2) (.slice i9 d9.length h4)) (fun _ hk=>hk.2) (.slice m9 g7.length n0)) (fun _ hk=>hk.2) (.slice f7 d4.length f6)) (fun _ hk=>hk.1.1),by (with_reducible repeat (first|apply Kd.V_alloc|apply Kd.V_drewN|apply Kd.V_drew));exact Kd.V_mono (Kd.V_far (p:=⟨b2,11,none⟩) (Kd.V_far (p:=⟨b2,10,none⟩) (Kd.V_far (p:=⟨b2,9,none⟩) (Kd.V_far (p:=⟨b2,8,none⟩) (Kd.V_far (p:=⟨b2,7,none⟩) (Kd.V_far (p:=⟨b2,6,none⟩) (Kd.V_far (p:=⟨b2,5,none⟩) (Kd.V_far (p:=⟨b2,4,none⟩) (Kd.V_far (p:=⟨b2,3,none⟩) (Kd.V_far (p:=⟨b2,2,none⟩) (Kd.V_far (p:=⟨b2,1,none⟩) (Kd.V_far (p:=⟨b2,0,none⟩) (Kd.V_mono e3.out (fun k_ hk=>(⟨hk,hk.2.2.2.2.1⟩:_∧k_≠b2))) (fun _ hk=>hk.2) (.int .i64 d3)) (fun _ hk=>hk.2) (.int .i64 d6)) (fun _ hk=>hk.2) (.int .i64 d7)) (fun _ hk=>hk.2) (.int .i64 d8)) (fun _ hk=>hk.2) (.int .i64 e0)) (fun _ hk=>hk.2) (.slice f4 d1.length f2)) (fun _ hk=>hk.2) (.slice f5 d2.length f3)) (fun _ hk=>hk.2) (.string e1)) (fun _ hk=>hk.2) (.slice g1 f0.length f9)) (fun _ hk=>hk.2) (.slice i9 d9.length h4)) (fun _ hk=>hk.2) (.slice m9 g7.length n0)) (fun _ hk=>hk.2) (.slice f7 d4.length f6)) (fun _ hk=>hk.1.1),by (with_reducible repeat (first|apply Kd.V_alloc|apply Kd.V_drewN|apply Kd.V_drew));exact Kd.V_mono (Kd.V_far (p:=⟨b2,11,none⟩) (Kd.V_far (p:=⟨b2,10,none⟩) (Kd.V_far (p:=⟨b2,9,none⟩) (Kd.V_far (p:=⟨b2,8,none⟩) (Kd.V_far (p:=⟨b2,7,none⟩) (Kd.V_far (p:=⟨b2,6,none⟩) (Kd.V_far (p:=⟨b2,5,none⟩) (Kd.V_far (p:=⟨b2,4,none⟩) (Kd.V_far (p:=⟨b2,3,none⟩) (Kd.V_far (p:=⟨b2,2,none⟩) (Kd.V_far (p:=⟨b2,1,none⟩) (Kd.V_far (p:=⟨b2,0,none⟩) (Kd.V_mono e7.out (fun k_ hk=>(⟨hk,hk.2.2.2.2.1⟩:_∧k_≠b2))) (fun _ hk=>hk.2) (.int .i64 d3)) (fun _ hk=>hk.2) (.int .i64 d6)) (fun _ hk=>hk.2) (.int .i64 d7)) (fun _ hk=>hk.2) (.int .i64 d8)) (fun _ hk=>hk.2) (.int .i64 e0)) (fun _ hk=>hk.2) (.slice f4 d1.length f2)) (fun _ hk=>hk.2) (.slice f5 d2.length f3)) (fun _ hk=>hk.2) (.string e1)) (fun _ hk=>hk.2) (.slice g1 f0.length f9)) (fun _ hk=>hk.2) (.slice i9 d9.length h4)) (fun _ hk=>hk.2) (.slice m9 g7.length n0)) (fun _ hk=>hk.2) (.slice f7 d4.length f6)) (fun _ hk=>hk.1.1),by repeat (first|(with_reducible first|exact HB.out|apply below_alloc|apply pw_below_drewN|apply below_drew1|refine below_set ?_ m4.out|refine below_set ?_ m5.out|refine below_set ?_ o6.out)|exact HB.out)⟩
      ·rw [if_neg s0] at H
       exact absurd H (by simp)
end Go.Proofs.Ytnkpakakgfkpbaa.P
end
