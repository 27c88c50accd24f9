import Derived.Test.YtnkpakakgfkpbaaM1
set_option linter.unusedVariables false
set_option linter.unusedSimpArgs false
section
namespace Go.Proofs.Ytnkpakakgfkpbaa.P
open Go.RowKit Go.Proofs.YtnkpakakgfkpbaaW.PrintWords Go.Proofs.YtnkpakakgfkpbaaW.PrintLast Go.Proofs.YtnkpakakgfkpbaaW.PrintMore
attribute [local go_sem] max2_int max_two binOp_string_gtr_pp
def nomination_all.l0:Nat→List ByteArray→List (S48)→Int→Int→Option (List ByteArray)
 | 0,_,_,_,_=>none
 | k + 1,x3,x6,x7,x8=>if x8 < x7 then (if 0≤x8 then (if x8 < (x6.length:Int) then (if x3.length + ((rd_T48 x6 x8).f3).length < 8796093022208 then ((some (x3 ++ ((rd_T48 x6 x8).f3):List ByteArray)).bind fun b0=>(if b0.length + ((rd_T48 x6 x8).f4).length < 8796093022208 then (nomination_all.l0 k (b0 ++ ((rd_T48 x6 x8).f4)) x6 x7 (wrap64 (x8 + 1))) else (none))) else (none)) else (none)) else (none)) else ((sSF.f x3).bind fun b8=>((slices_Compact_string_string.f b8).bind fun b5=>(some b5)))
def nomination_all.f (k:Nat) (l0:List (S48)):Option (List ByteArray):=nomination_all.l0 k ([]:List ByteArray) l0 (l0.length:Int) 0
theorem nomination_all.mono_l:∀ k,(∀ y0 y1 y2 y3,LeO (nomination_all.l0 k y0 y1 y2 y3) (nomination_all.l0 (k + 1) y0 y1 y2 y3))
 | 0=>fun _ _ _ _ r h=>by simp [nomination_all.l0] at h
 | k + 1=>by
  have b9:=nomination_all.mono_l k
  ·intro y0 y1 y2 y3
   unfold nomination_all.l0
   repeat' first
   | (with_reducible exact b9 _ _ _ _)
   | (with_reducible exact LeO.refl _)
   | (with_reducible exact LeO.none _)
   | (with_reducible refine LeO.ite ?_ ?_)
   | (with_reducible refine LeO.bind ?_ (fun _=>?_))
theorem nomination_all.mono:∀ a0 k,LeO (nomination_all.f k a0) (nomination_all.f (k + 1) a0):=by
 intro a0 k
 have b9:=nomination_all.mono_l k
 unfold nomination_all.f
 repeat' first
   | (with_reducible exact b9 _ _ _ _)
   | (with_reducible exact LeO.refl _)
   | (with_reducible exact LeO.none _)
   | (with_reducible refine LeO.ite ?_ ?_)
   | (with_reducible refine LeO.bind ?_ (fun _=>?_))
def nomination_all.T5:Bool × List (List Nat × List Nat):=(true,[([],[]),([],[]),([1],[1]),([0,2],[0,2]),([],[]),([4],[4]),([3,5,3],[3,5]),([6,6,0,1,2,3,4,5,6],[0,6])])
def nomination_all.B5:List Nat:=[0,0,2,7,0,16,63,127]
theorem nomination_all.tab5:rtab .any (opsOf Try.f40 5)=nomination_all.T5:=by kernel_rfl
theorem nomination_all.bits5:waitsOk nomination_all.T5.2 nomination_all.B5=true:=by kernel_rfl
set_option maxHeartbeats 8000000 in
set_option maxRecDepth 100000 in
theorem nomination_all.calls (k:Nat) (A0:Option Addr) (c0:Nat) (l0:List (S48)) (r:List ByteArray) (w:World) (e4:Kd.C k48 w A0 l0.length l0) (e5:l0.length≤c0) (h:nomination_all.f k l0=some r) :
  Calls Try.prog 40 #[.slice A0 l0.length c0] w fun e w'=>∃ e6:Value,e = .returned (e6)∧Kd.R Kd.string 9 w' w.heap.size (fun _=>True) e6 r∧Below w.heap.size w w':=by
 have hu48:=Try.underlying48
 have g5:=Aside0.mk e4
 have i0:=Aside0.mk e5
 clear e4 e5
 have HB:=Aside0.mk (Below.refl w.heap.size w)
 have H:(nomination_all.l0 k ([]:List ByteArray) l0 (l0.length:Int) 0)=some r:=h
 clear h
 have H':=Aside0.mk H
 clear H
 go_enter Try.func40,Try.ntmps40
 go_wp2
 go_loopg [3,8] k (fun kq v3 v8 w'=>∃ (a5:List ByteArray) (a1:Int),v8 = .int .i64 a1∧Aside0 (nomination_all.l0 kq a5 l0 (l0.length:Int) a1=some r)∧Aside0 (kq≤k)∧Aside0 (Kd.R Kd.string 9 w' w.heap.size (fun _=>True) v3 a5)∧Aside0 (Below w.heap.size w w'))
 case atStart=>exact ⟨(([]:List ByteArray)),(0),tz3,H',⟨Nat.le_refl _⟩,⟨by first|exact Kd.R_nil _ _ _ _ _|exact Kd.N_nil _ _ _ _ _|exact Kd.V_nil _ _ _ _ _|exact Kd.Q_nil _ _ _ _ _|exact Kd.S_nil _ _ _ _ _⟩,⟨by repeat (first|(with_reducible first|exact HB.out|apply below_alloc|apply pw_below_drewN|apply below_drew1)|exact HB.out)⟩⟩
 case round=>
  clear H'
  try clear HB
  obtain ⟨a5,a1,rfl,HA,e7,a4,HB⟩:=hrel
  cases gk with
  | zero=>exact absurd HA.out (by simp [nomination_all.l0])
  | succ k1=>
   have H:=HA.out
   clear HA
   simp only [nomination_all.l0] at H
   by_cases c2:a1 < (l0.length:Int)
   ·rw [if_pos c2] at H
    have g6:decide (a1 < (l0.length:Int))=true:=decide_eq_true c2
    clear c2
    by_cases c3:0≤a1
    ·rw [if_pos c3] at H
     have i1:decide (0≤a1)=true:=decide_eq_true c3
     clear c3
     by_cases c4:a1 < (l0.length:Int)
     ·rw [if_pos c4] at H
      have i2:decide (a1 < (l0.length:Int))=true:=decide_eq_true c4
      clear c4
      by_cases c5:a5.length + ((rd_T48 l0 a1).f3).length < 8796093022208
      ·rw [if_pos c5] at H
       have LMc5:=Aside0.mk c5
       clear c5
       obtain ⟨b0,c1⟩:∃ y_:List ByteArray,y_=(a5 ++ ((rd_T48 l0 a1).f3)):=⟨_,rfl⟩
       replace H:(if b0.length + ((rd_T48 l0 a1).f4).length < 8796093022208 then (nomination_all.l0 k1 (b0 ++ ((rd_T48 l0 a1).f4)) l0 (l0.length:Int) (wrap64 (a1 + 1))) else (none))=some r:=rH c1 H
       have g7:=Aside0.mk c1
       clear c1
       by_cases c6:b0.length + ((rd_T48 l0 a1).f4).length < 8796093022208
       ·rw [if_pos c6] at H
        have LMc6:=Aside0.mk c6
        clear c6
        obtain ⟨e8,d0⟩:∃ y_:List ByteArray,y_=(b0 ++ ((rd_T48 l0 a1).f4)):=⟨_,rfl⟩
        replace H:(nomination_all.l0 k1 e8 l0 (l0.length:Int) (wrap64 (a1 + 1)))=some r:=rH d0 H
        have g8:=Aside0.mk d0
        clear d0
        have H':=Aside0.mk H
        clear H
        have d1:0≤(a1:Int):=of_decide_eq_true tz2
        have d2:a1 < (l0.length:Int):=of_decide_eq_true tz2
        obtain ⟨i3,a6,a7,a8,a9,b1,b2,b3,b4,g9,d3,d4,d5,d6,d7,d8,d9,e9,f5,f6,f7,f8,f9,g0,g1⟩:=at_T48 g5.out a1 d1 d2
        cases g9
        replace d3:=(HB.out.cell (World.block_lt_of_cell? w _ d3)).trans d3
        replace d4:=(HB.out.cell (World.block_lt_of_cell? w _ d4)).trans d4
        replace d5:=(HB.out.cell (World.block_lt_of_cell? w _ d5)).trans d5
        replace d6:=(HB.out.cell (World.block_lt_of_cell? w _ d6)).trans d6
        replace d7:=(HB.out.cell (World.block_lt_of_cell? w _ d7)).trans d7
        replace d8:=(HB.out.cell (World.block_lt_of_cell? w _ d8)).trans d8
        replace d9:=(HB.out.cell (World.block_lt_of_cell? w _ d9)).trans d9
        have i4:=Aside0.mk f5
        have i5:=Aside0.mk e9
        clear f5 e9
        have i6:=Aside0.mk f7
        have i7:=Aside0.mk f6
        clear f7 f6
        have h0:=Aside0.mk f9
        have i8:=Aside0.mk f8
        clear f9 f8
        have h1:=Aside0.mk g1
        have i9:=Aside0.mk g0
        clear g1 g0
        replace d1:=eq_true d1
        replace d2:=eq_true d2
        try go_wp2_with (first|((with_reducible refine gate_dst (N:=5) rfl ?_);refine box_event ?hg (N:=5) ?hd (cs:=#[.int .i64 0,.int .i64 0,.int .i64 0,.slice none 0 0,.slice none 0 0,.slice none 0 0,.slice none 0 0]) (t:=48) ?hr ?_;(case hd=>rfl);(case hg=>rfl);(case hr=>first|(go_simp;done)|(go_simp;rfl));intro a2 hg w7 hbox hb;refine ap5 (Kd.R_below (Kd.R_q a4.out) hb) (below_step (belowP HB) hb) (hbox) ((by rw [hg];exact (below_size (belowP HB)):w.heap.size≤a2)) ((by rw [hg];exact (below_size (belowP HB)):w.heap.size≤a2)) ?_;clear a4 HB;intro a4 HB a3 GW271 g2;clear hb hbox hg;have j2:w7.cell? ⟨a2,0,none⟩=some (.int .i64 0):=(blk_cell a3.out 0).trans rfl;have j3:w7.cell? ⟨a2,1,none⟩=some (.int .i64 0):=(blk_cell a3.out 1).trans rfl;have j4:w7.cell? ⟨a2,2,none⟩=some (.int .i64 0):=(blk_cell a3.out 2).trans rfl;have j5:w7.cell? ⟨a2,3,none⟩=some (.slice none 0 0):=(blk_cell a3.out 3).trans rfl;have j6:w7.cell? ⟨a2,4,none⟩=some (.slice none 0 0):=(blk_cell a3.out 4).trans rfl;have j7:w7.cell? ⟨a2,5,none⟩=some (.slice none 0 0):=(blk_cell a3.out 5).trans rfl;have j8:w7.cell? ⟨a2,6,none⟩=some (.slice none 0 0):=(blk_cell a3.out 6).trans rfl;have j9:=blk_frozen a3.out 0;have k0:=blk_frozen a3.out 1;have k2:=blk_frozen a3.out 2;have k3:=blk_frozen a3.out 3;have k4:=blk_frozen a3.out 4;have k5:=blk_frozen a3.out 5;have k6:=blk_frozen a3.out 6))
        have e0:Aside0 (Kd.R Kd.string 9 (((((((w7.setCell ⟨a2,0,none⟩ (.int .i64 ((rd_T48 l0 a1).f0))).setCell ⟨a2,1,none⟩ (.int .i64 ((rd_T48 l0 a1).f1))).setCell ⟨a2,2,none⟩ (.int .i64 ((rd_T48 l0 a1).f2.f0))).setCell ⟨a2,3,none⟩ (.slice a6 ((rd_T48 l0 a1).f2.f1).length a7)).setCell ⟨a2,4,none⟩ (.slice a8 ((rd_T48 l0 a1).f2.f2).length a9)).setCell ⟨a2,5,none⟩ (.slice b1 ((rd_T48 l0 a1).f3).length b2)).setCell ⟨a2,6,none⟩ (.slice b3 ((rd_T48 l0 a1).f4).length b4)) w.heap.size (fun _=>True) u3 a5):=⟨by refine Kd.R_q ?_;exact Kd.R_mono (Kd.R_far (p:=⟨a2,6,none⟩) (Kd.R_far (p:=⟨a2,5,none⟩) (Kd.R_far (p:=⟨a2,4,none⟩) (Kd.R_far (p:=⟨a2,3,none⟩) (Kd.R_far (p:=⟨a2,2,none⟩) (Kd.R_far (p:=⟨a2,1,none⟩) (Kd.R_far (p:=⟨a2,0,none⟩) (Kd.R_types a4.out a3.out (by decide)) (fun _ hk=>hk.2) (.int .i64 ((rd_T48 l0 a1).f0))) (fun _ hk=>hk.2) (.int .i64 ((rd_T48 l0 a1).f1))) (fun _ hk=>hk.2) (.int .i64 ((rd_T48 l0 a1).f2.f0))) (fun _ hk=>hk.2) (.slice a6 ((rd_T48 l0 a1).f2.f1).length a7)) (fun _ hk=>hk.2) (.slice a8 ((rd_T48 l0 a1).f2.f2).length a9)) (fun _ hk=>hk.2) (.slice b1 ((rd_T48 l0 a1).f3).length b2)) (fun _ hk=>hk.2) (.slice b3 ((rd_T48 l0 a1).f4).length b4)) (fun _ hk=>trivial)⟩
        have e1:Aside0 ((((((((w7.setCell ⟨a2,0,none⟩ (.int .i64 ((rd_T48 l0 a1).f0))).setCell ⟨a2,1,none⟩ (.int .i64 ((rd_T48 l0 a1).f1))).setCell ⟨a2,2,none⟩ (.int .i64 ((rd_T48 l0 a1).f2.f0))).setCell ⟨a2,3,none⟩ (.slice a6 ((rd_T48 l0 a1).f2.f1).length a7)).setCell ⟨a2,4,none⟩ (.slice a8 ((rd_T48 l0 a1).f2.f2).length a9)).setCell ⟨a2,5,none⟩ (.slice b1 ((rd_T48 l0 a1).f3).length b2)).setCell ⟨a2,6,none⟩ (.slice b3 ((rd_T48 l0 a1).f4).length b4)).heap[a2]? = some (.cells #[.int .i64 ((rd_T48 l0 a1).f0),.int .i64 ((rd_T48 l0 a1).f1),.int .i64 ((rd_T48 l0 a1).f2.f0),.slice a6 ((rd_T48 l0 a1).f2.f1).length a7,.slice a8 ((rd_T48 l0 a1).f2.f2).length a9,.slice b1 ((rd_T48 l0 a1).f3).length b2,.slice b3 ((rd_T48 l0 a1).f4).length b4] 48 (0,0))):=⟨by refine blkQ ?_;refine blk_put (cs:=#[.int .i64 ((rd_T48 l0 a1).f0),.int .i64 ((rd_T48 l0 a1).f1),.int .i64 ((rd_T48 l0 a1).f2.f0),.slice a6 ((rd_T48 l0 a1).f2.f1).length a7,.slice a8 ((rd_T48 l0 a1).f2.f2).length a9,.slice b1 ((rd_T48 l0 a1).f3).length b2,.slice none 0 0]) ?_ 6 _ rfl;refine blkQ ?_;refine blk_put (cs:=#[.int .i64 ((rd_T48 l0 a1).f0),.int .i64 ((rd_T48 l0 a1).f1),.int .i64 ((rd_T48 l0 a1).f2.f0),.slice a6 ((rd_T48 l0 a1).f2.f1).length a7,.slice a8 ((rd_T48 l0 a1).f2.f2).length a9,.slice none 0 0,.slice none 0 0]) ?_ 5 _ rfl;refine blkQ ?_;refine blk_put (cs:=#[.int .i64 ((rd_T48 l0 a1).f0),.int .i64 ((rd_T48 l0 a1).f1),.int .i64 ((rd_T48 l0 a1).f2.f0),.slice a6 ((rd_T48 l0 a1).f2.f1).length a7,.slice none 0 0,.slice none 0 0,.slice none 0 0]) ?_ 4 _ rfl;refine blkQ ?_;refine blk_put (cs:=#[.int .i64 ((rd_T48 l0 a1).f0),.int .i64 ((rd_T48 l0 a1).f1),.int .i64 ((rd_T48 l0 a1).f2.f0),.slice none 0 0,.slice none 0 0,.slice none 0 0,.slice none 0 0]) ?_ 3 _ rfl;refine blkQ ?_;refine blk_put (cs:=#[.int .i64 ((rd_T48 l0 a1).f0),.int .i64 ((rd_T48 l0 a1).f1),.int .i64 0,.slice none 0 0,.slice none 0 0,.slice none 0 0,.slice none 0 0]) ?_ 2 _ rfl;refine blkQ ?_;refine blk_put (cs:=#[.int .i64 ((rd_T48 l0 a1).f0),.int .i64 0,.int .i64 0,.slice none 0 0,.slice none 0 0,.slice none 0 0,.slice none 0 0]) ?_ 1 _ rfl;refine blkQ ?_;refine blk_put (cs:=#[.int .i64 0,.int .i64 0,.int .i64 0,.slice none 0 0,.slice none 0 0,.slice none 0 0,.slice none 0 0]) ?_ 0 _ rfl;refine blkQ ?_;exact a3.out⟩
        have e2:Aside0 (Below w.heap.size w (((((((w7.setCell ⟨a2,0,none⟩ (.int .i64 ((rd_T48 l0 a1).f0))).setCell ⟨a2,1,none⟩ (.int .i64 ((rd_T48 l0 a1).f1))).setCell ⟨a2,2,none⟩ (.int .i64 ((rd_T48 l0 a1).f2.f0))).setCell ⟨a2,3,none⟩ (.slice a6 ((rd_T48 l0 a1).f2.f1).length a7)).setCell ⟨a2,4,none⟩ (.slice a8 ((rd_T48 l0 a1).f2.f2).length a9)).setCell ⟨a2,5,none⟩ (.slice b1 ((rd_T48 l0 a1).f3).length b2)).setCell ⟨a2,6,none⟩ (.slice b3 ((rd_T48 l0 a1).f4).length b4))):=⟨by repeat (first|(with_reducible first|exact HB.out|apply below_alloc|apply pw_below_drewN|apply below_drew1|refine below_set ?_ g2.out)|exact HB.out)⟩
        (try clear a4)
        (try clear a3)
        (try clear HB)
        generalize (((((((w7.setCell ⟨a2,0,none⟩ (.int .i64 ((rd_T48 l0 a1).f0))).setCell ⟨a2,1,none⟩ (.int .i64 ((rd_T48 l0 a1).f1))).setCell ⟨a2,2,none⟩ (.int .i64 ((rd_T48 l0 a1).f2.f0))).setCell ⟨a2,3,none⟩ (.slice a6 ((rd_T48 l0 a1).f2.f1).length a7)).setCell ⟨a2,4,none⟩ (.slice a8 ((rd_T48 l0 a1).f2.f2).length a9)).setCell ⟨a2,5,none⟩ (.slice b1 ((rd_T48 l0 a1).f3).length b2)).setCell ⟨a2,6,none⟩ (.slice b3 ((rd_T48 l0 a1).f4).length b4))=w9 at e0 e1 e2 ⊢
        have a4:=e0
        have a3:=e1
        have HB:=e2
        clear e0 e1 e2
        refine ap3 (Kd.R_drew a4.out) (blk_drew a3.out) (below_drew1 HB.out) ?_
        clear a4 a3 HB
        intro a4 a3 HB
        refine start_ (n:=8) (S:=fun w'=>w'.cell? ⟨a2,0,none⟩=some (.int .i64 ((rd_T48 l0 a1).f0))∧w'.cell? ⟨a2,1,none⟩=some (.int .i64 ((rd_T48 l0 a1).f1))∧w'.cell? ⟨a2,2,none⟩=some (.int .i64 ((rd_T48 l0 a1).f2.f0))∧w'.cell? ⟨a2,3,none⟩=some (.slice a6 ((rd_T48 l0 a1).f2.f1).length a7)∧w'.cell? ⟨a2,4,none⟩=some (.slice a8 ((rd_T48 l0 a1).f2.f2).length a9)∧w'.cell? ⟨a2,5,none⟩=some (.slice b1 ((rd_T48 l0 a1).f3).length b2)∧w'.cell? ⟨a2,6,none⟩=some (.slice b3 ((rd_T48 l0 a1).f4).length b4)) (ds:=[]) #[false,false,false,false,false,false,false,false] (by kernel_rfl) rfl rfl ⟨(blk_cell a3.out 0).trans rfl,(blk_cell a3.out 1).trans rfl,(blk_cell a3.out 2).trans rfl,(blk_cell a3.out 3).trans rfl,(blk_cell a3.out 4).trans rfl,(blk_cell a3.out 5).trans rfl,(blk_cell a3.out 6).trans rfl⟩ (fun hHeld=>?_);refine with_tabW nomination_all.tab5 nomination_all.bits5 (fun HT_ HW_=>?_)
        generalize w9.drew=k7 at a4 a3 HB hHeld ⊢
        refine pure_ (i:=0) (N:=some 12) #[true,false,false,false,false,false,false,false] rfl rfl (any_of HT_.out (by kernel_rfl)) (fun _ _ _ h=>h) (Or.inl ⟨by rfl,tz4⟩) tz1 ?_
        refine pure_ (i:=1) (N:=some 13) #[true,true,false,false,false,false,false,false] rfl rfl (any_of HT_.out (by kernel_rfl)) (fun _ _ _ h=>h) (Or.inl ⟨by rfl,tz4⟩) tz1 ?_
        refine pure_ (i:=4) (N:=some 16) #[true,true,false,false,true,false,false,false] rfl rfl (any_of HT_.out (by kernel_rfl)) (fun _ _ _ h=>h) (Or.inl ⟨by rfl,tz4⟩) tz1 ?_
        refine take_ (i:=2) (N:=some 14) #[true,true,true,false,true,false,false,false] rfl rfl (take_ofW HT_.out HW_.out (by kernel_rfl)) (fun _ _ _ h=>h) (Or.inl ⟨by rfl,tz7⟩) hHeld tz1 ?_
        refine take_ (i:=5) (N:=some 17) #[true,true,true,false,true,true,false,false] rfl rfl (take_ofW HT_.out HW_.out (by kernel_rfl)) (fun _ _ _ h=>h) (Or.inl ⟨by rfl,tz7⟩) hHeld tz1 ?_
        refine one_ (i:=3) (N:=some 15) #[true,true,true,true,true,true,false,false] rfl rfl (one_of HT_.out (by kernel_rfl)) (by decide) (fun K hK=>?_)
        refine Kd.R_append_rows_step Kd.string (w0:=w) w.heap.size (by rfl) (.tmp 12) (.tmp 14) 22 9 (.string ⟨#[]⟩) 16 rfl Try.underlying22 info9 rfl (by decide) (by omega) u3 a5 ((rd_T48 l0 a1).f3) _ _ _ (fun _=>True) (fun _=>False) rfl rfl ?aO ?aR (fun _ _ h=>h) (fun _ h=>h.elim) ?aF ?aB ?aS ?aL ?_
        (case aR=>exact Kd.C_q (Kd.C_below h0.out HB.out))
        (case aB=>exact (belowP HB))
        (case aF=>exact (fun _ _=>trivial))
        (case aO=>exact (Kd.R_q a4.out))
        (case aS=>exact (below_size (belowP HB)))
        (case aL=>have:=LMc5.out;omega)
        intro h2 k8 ho hb hg hat
        rw [← g7.out] at ho
        refine ap3 (blk_grown (blkP a3) hg (Kd.R_ne a4.out a3.out (by decide))) (hb) (ho) ?_
        clear a3 HB a4
        intro a3 HB e3
        clear ho hb hg hat
        refine hK.out _ _ ⟨(blk_cell a3.out 0).trans rfl,(blk_cell a3.out 1).trans rfl,(blk_cell a3.out 2).trans rfl,(blk_cell a3.out 3).trans rfl,(blk_cell a3.out 4).trans rfl,(blk_cell a3.out 5).trans rfl,(blk_cell a3.out 6).trans rfl⟩ (fun hHeld=>?_)
        clear hK K
        refine norm_ (a':=?_) ?_ ?_
        rotate_left
        ·show Act.put _ (some 15) _=_
         simp only [Act.put,List.setIfInBounds_toArray,List.set_cons_zero,List.set_cons_succ,i64_w,i32_w]
         rfl
        refine one_ (i:=6) (N:=some 18) #[true,true,true,true,true,true,true,false] rfl rfl (one_of HT_.out (by kernel_rfl)) (by decide) (fun K hK=>?_)
        refine Kd.R_append_rows_step Kd.string (w0:=w) w.heap.size (by rfl) (.tmp 15) (.tmp 17) 22 9 (.string ⟨#[]⟩) 16 rfl Try.underlying22 info9 rfl (by decide) (by omega) h2 b0 ((rd_T48 l0 a1).f4) _ _ _ (fun _=>True) (fun _=>False) rfl rfl ?aO ?aR (fun _ _ h=>h) (fun _ h=>h.elim) ?aF ?aB ?aS ?aL ?_
        (case aR=>exact Kd.C_q (Kd.C_below h1.out HB.out))
        (case aB=>exact (belowP HB))
        (case aF=>exact (fun _ _=>trivial))
        (case aO=>exact (Kd.R_q e3.out))
        (case aS=>exact (below_size (belowP HB)))
        (case aL=>have:=LMc6.out;omega)
        intro k9 l3 ho hb hg hat
        rw [← g8.out] at ho
        refine ap3 (blk_grown (blkP a3) hg (Kd.R_ne e3.out a3.out (by decide))) (hb) (ho) ?_
        clear a3 HB e3
        intro a3 HB h3
        clear ho hb hg hat
        refine hK.out _ _ ⟨(blk_cell a3.out 0).trans rfl,(blk_cell a3.out 1).trans rfl,(blk_cell a3.out 2).trans rfl,(blk_cell a3.out 3).trans rfl,(blk_cell a3.out 4).trans rfl,(blk_cell a3.out 5).trans rfl,(blk_cell a3.out 6).trans rfl⟩ (fun hHeld=>?_)
        clear hK K
        refine norm_ (a':=?_) ?_ ?_
        rotate_left
        ·show Act.put _ (some 18) _=_
         simp only [Act.put,List.setIfInBounds_toArray,List.set_cons_zero,List.set_cons_succ,i64_w,i32_w]
         rfl
        refine pure_ (i:=7) (N:=some 3) #[true,true,true,true,true,true,true,true] rfl rfl (any_of HT_.out (by kernel_rfl)) (fun _ _ _ h=>h) (Or.inl ⟨by rfl,tz4⟩) tz1 ?_
        refine done_ (done_of HT_.out (by kernel_rfl)) ?_
        try go_wp2
        go_roundg k1
        case measure=>have:=e7.out;omega
        case rel=>exact ⟨(e8),(wrap64 (a1 + 1)),tz3,H',⟨by have:=e7.out;omega⟩,⟨by refine Kd.R_q ?_;exact h3.out⟩,⟨by repeat (first|(with_reducible first|exact HB.out|apply below_alloc|apply pw_below_drewN|apply below_drew1|refine below_set ?_ g2.out)|exact HB.out)⟩⟩
       ·rw [if_neg c6] at H
        exact absurd H (by simp)
      ·rw [if_neg c5] at H
       exact absurd H (by simp)
     ·rw [if_neg c4] at H
      exact absurd H (by simp)
    ·rw [if_neg c3] at H
     exact absurd H (by simp)
   ·rw [if_neg c2] at H
    have g6:decide (a1 < (l0.length:Int))=false:=decide_eq_false c2
    clear c2
    replace H:=Option.bind_eq_some_iff.mp H
    obtain ⟨b8,g3,H⟩:=H
    replace H:((slices_Compact_string_string.f b8).bind fun b5=>(some b5))=some r:=H
    have h4:=Aside0.mk g3
    clear g3
    replace H:=Option.bind_eq_some_iff.mp H
    obtain ⟨b5,g4,H⟩:=H
    replace H:(some b5)=some r:=H
    have h5:=Aside0.mk g4
    clear g4
    obtain rfl:=Option.some.inj H
    obtain ⟨b6,b7,h6⟩:=Kd.R_slice a4.out
    subst h6
    go_wp2_with (first|((with_reducible refine gate_callee (f:=51) rfl ?_);refine goesL_ (some 21) rfl rfl Try.func51 (by kernel_rfl) rfl #[.slice b6 a5.length b7,.func (.func 9) #[] #[]] rfl tz0 ?_;(with_reducible refine (sSF.calls (fun k_=>some k_=(.slice b6 a5.length b7:Value).ownBlock) (.slice b6 a5.length b7) a5  b8 w _ ?side1 ?side2 h4.out).mono ?_);(case side1=>repeat (first|(with_reducible first|exact HB.out|apply below_alloc|apply pw_below_drewN|apply below_drew1)|exact HB.out));(case side2=>exact Kd.R_tight rfl a4.out);rintro e l4 ⟨rfl,h7,hb,hkp⟩;refine ⟨_,rfl,?_⟩;refine ap2 (Kd.R_reok rfl h7 (fun k_ e_=>a4.out.1 k_ e_)) (hb) ?_;clear a4 HB;intro a4 HB)|((with_reducible refine gate_callee (f:=52) rfl ?_);refine goesL_ (some 23) rfl rfl Try.func52 (by kernel_rfl) rfl #[.slice b6 a5.length b7] rfl tz0 ?_;(with_reducible refine (slices_Compact_string_string.calls (fun k_=>some k_=(.slice b6 a5.length b7:Value).ownBlock) (.slice b6 a5.length b7) b8 b5 w _ ?side1 ?side2 h5.out).mono ?_);(case side1=>repeat (first|(with_reducible first|exact HB.out|apply below_alloc|apply pw_below_drewN|apply below_drew1)|exact HB.out));(case side2=>exact Kd.R_tight rfl a4.out);rintro e l5 ⟨l6,rfl,h8,hb,hkp⟩;refine ⟨_,rfl,?_⟩;refine ap2 (Kd.R_mono (ok':=fun k_=>True) h8 (fun k_ hk_=>trivial)) (hb) ?_;clear HB a4;intro h9 HB))
    go_ret
    exact ⟨_,rE,by refine Kd.R_q ?_;exact h9.out,by repeat (first|(with_reducible first|exact HB.out|apply below_alloc|apply pw_below_drewN|apply below_drew1)|exact HB.out)⟩
def slices_Index_string_string.l0:Nat→List ByteArray→ByteArray→Int→Int→Option (Int)
 | 0,_,_,_,_=>none
 | k + 1,x0,x1,x7,x8=>if x8 < x7 then (if 0≤x8 then (if x8 < (x0.length:Int) then (if x1.toList=(rdOf ByteArray.empty x0 x8).toList then (some x8) else (slices_Index_string_string.l0 k x0 x1 x7 (wrap64 (x8 + 1)))) else (none)) else (none)) else (some (-1))
def slices_Index_string_string.f (k:Nat) (l0:List ByteArray) (a1:ByteArray):Option (Int):=slices_Index_string_string.l0 k l0 a1 (l0.length:Int) 0
theorem slices_Index_string_string.mono_l:∀ k,(∀ y0 y1 y2 y3,LeO (slices_Index_string_string.l0 k y0 y1 y2 y3) (slices_Index_string_string.l0 (k + 1) y0 y1 y2 y3))
 | 0=>fun _ _ _ _ r h=>by simp [slices_Index_string_string.l0] at h
 | k + 1=>by
  have a5:=slices_Index_string_string.mono_l k
  ·intro y0 y1 y2 y3
   unfold slices_Index_string_string.l0
   repeat' first
   | (with_reducible exact a5 _ _ _ _)
   | (with_reducible exact LeO.refl _)
   | (with_reducible exact LeO.none _)
   | (with_reducible refine LeO.ite ?_ ?_)
   | (with_reducible refine LeO.bind ?_ (fun _=>?_))
theorem slices_Index_string_string.mono:∀ a0 a1 k,LeO (slices_Index_string_string.f k a0 a1) (slices_Index_string_string.f (k + 1) a0 a1):=by
 intro a0 a1 k
 have a5:=slices_Index_string_string.mono_l k
 unfold slices_Index_string_string.f
 repeat' first
   | (with_reducible exact a5 _ _ _ _)
   | (with_reducible exact LeO.refl _)
   | (with_reducible exact LeO.none _)
   | (with_reducible refine LeO.ite ?_ ?_)
   | (with_reducible refine LeO.bind ?_ (fun _=>?_))
set_option maxHeartbeats 8000000 in
set_option maxRecDepth 100000 in
theorem slices_Index_string_string.calls (k:Nat) (A0:Option Addr) (c0:Nat) (l0:List ByteArray) (a1:ByteArray) (r:Int) (w:World) (a7:Kd.C Kd.string w A0 l0.length l0) (a8:l0.length≤c0) (h:slices_Index_string_string.f k l0 a1=some r) :
  Calls Try.prog 67 #[.slice A0 l0.length c0,.string a1] w fun e w'=>e = .returned (.int .i64 r)∧Drawn0 w w':=by
 have a9:=Aside0.mk a7
 have b6:=Aside0.mk a8
 clear a7 a8
 have H:(slices_Index_string_string.l0 k l0 a1 (l0.length:Int) 0)=some r:=h
 clear h
 have H':=Aside0.mk H
 clear H
 go_enter Try.func67,Try.ntmps67
 go_wp2
 go_loopg [8] k (fun kq v8 w'=>∃ (a2:Int),v8 = .int .i64 a2∧Aside0 (slices_Index_string_string.l0 kq l0 a1 (l0.length:Int) a2=some r)∧Aside0 (kq≤k)∧Drawn0 w w')
 case atStart=>exact ⟨(0),tz3,H',⟨Nat.le_refl _⟩,by repeat (first|exact Drawn0.refl _|apply Drawn0.step)⟩
 case round=>
  clear H'
  obtain ⟨a2,rfl,HA,b0,⟨m1,rfl⟩⟩:=hrel
  cases gk with
  | zero=>exact absurd HA.out (by simp [slices_Index_string_string.l0])
  | succ k1=>
   have H:=HA.out
   clear HA
   simp only [slices_Index_string_string.l0] at H
   by_cases c3:a2 < (l0.length:Int)
   ·rw [if_pos c3] at H
    have b1:decide (a2 < (l0.length:Int))=true:=decide_eq_true c3
    clear c3
    by_cases c4:0≤a2
    ·rw [if_pos c4] at H
     have b7:decide (0≤a2)=true:=decide_eq_true c4
     clear c4
     by_cases c5:a2 < (l0.length:Int)
     ·rw [if_pos c5] at H
      have b8:decide (a2 < (l0.length:Int))=true:=decide_eq_true c5
      clear c5
      by_cases c6:a1.toList=(rdOf ByteArray.empty l0 a2).toList
      ·rw [if_pos c6] at H
       have b2:(a1.toList == (rdOf ByteArray.empty l0 a2).toList)=true:=beq_iff_eq.mpr c6
       have b3:(a1.toList != (rdOf ByteArray.empty l0 a2).toList)=false:=bne_eq_false_iff_eq.mpr c6
       clear c6
       obtain rfl:=Option.some.inj H
       have a3:0≤(a2:Int):=of_decide_eq_true tz2
       have a4:a2 < (l0.length:Int):=of_decide_eq_true tz2
       obtain ⟨b4,a6,b5⟩:=Kd.at_string a9.out a2 a3 a4
       cases a6
       replace a3:=eq_true a3
       replace a4:=eq_true a4
       go_wp2
       go_ret
       exact ⟨by first|rfl|(simp;done)|(simp [*];done),by repeat (first|exact Drawn0.refl _|apply Drawn0.step)⟩
      ·rw [if_neg c6] at H
       have b2:(a1.toList == (rdOf ByteArray.empty l0 a2).toList)=false:=beq_eq_false_iff_ne.mpr c6
       have b3:(a1.toList != (rdOf ByteArray.empty l0 a2).toList)=true:=bne_iff_ne.mpr c6
       have H':=Aside0.mk H
       clear H
       have a3:0≤(a2:Int):=of_decide_eq_true tz2
       have a4:a2 < (l0.length:Int):=of_decide_eq_true tz2
       obtain ⟨b4,a6,b5⟩:=Kd.at_string a9.out a2 a3 a4
       cases a6
       replace a3:=eq_true a3
       replace a4:=eq_true a4
       go_wp2
       go_roundg k1
       case measure=>have:=b0.out;omega
       case rel=>exact ⟨(wrap64 (a2 + 1)),tz3,H',⟨by have:=b0.out;omega⟩,by repeat (first|exact Drawn0.refl _|apply Drawn0.step)⟩
     ·rw [if_neg c5] at H
      exact absurd H (by simp)
    ·rw [if_neg c4] at H
     exact absurd H (by simp)
   ·rw [if_neg c3] at H
    have b1:decide (a2 < (l0.length:Int))=false:=decide_eq_false c3
    clear c3
    obtain rfl:=Option.some.inj H
    go_wp2
    go_ret
    exact ⟨by first|rfl|(simp;done)|(simp [*];done),by repeat (first|exact Drawn0.refl _|apply Drawn0.step)⟩
def slices_Contains_string_string.f (k:Nat) (l0:List ByteArray) (a1:ByteArray):Option (Bool):=(slices_Index_string_string.f k l0 a1).bind fun a2=>(some (decide (a2≥0)))
theorem slices_Contains_string_string.mono:∀ a0 a1 k,LeO (slices_Contains_string_string.f k a0 a1) (slices_Contains_string_string.f (k + 1) a0 a1):=by
 intro a0 a1 k
 unfold slices_Contains_string_string.f
 repeat' first
   | (with_reducible apply slices_Index_string_string.mono)
   | (with_reducible exact LeO.refl _)
   | (with_reducible exact LeO.none _)
   | (with_reducible refine LeO.ite ?_ ?_)
   | (with_reducible refine LeO.bind ?_ (fun _=>?_))
set_option maxHeartbeats 8000000 in
set_option maxRecDepth 100000 in
theorem slices_Contains_string_string.calls (k:Nat) (A0:Option Addr) (c0:Nat) (l0:List ByteArray) (a1:ByteArray) (r:Bool) (w:World) (a3:Kd.C Kd.string w A0 l0.length l0) (a4:l0.length≤c0) (h:slices_Contains_string_string.f k l0 a1=some r) :
  Calls Try.prog 56 #[.slice A0 l0.length c0,.string a1] w fun e w'=>e = .returned (.bool r)∧Drawn0 w w':=by
 have a6:=Aside0.mk a3
 have a7:=Aside0.mk a4
 clear a3 a4
 have H:((slices_Index_string_string.f k l0 a1).bind fun a2=>(some (decide (a2≥0))))=some r:=h
 clear h
 replace H:=Option.bind_eq_some_iff.mp H
 obtain ⟨a2,a5,H⟩:=H
 replace H:(some (decide (a2≥0)))=some r:=H
 have A3:=Aside0.mk a5
 clear a5
 obtain rfl:=Option.some.inj H
 go_enter Try.func56,Try.ntmps56
 go_wp2_with (first|((with_reducible refine gate_callee (f:=67) rfl ?_);refine goesL_ (some 7) rfl rfl Try.func67 (by kernel_rfl) rfl #[.slice A0 l0.length c0,.string a1] rfl tz0 ?_;(with_reducible refine (slices_Index_string_string.calls k _ _ l0 a1 a2 _ ?side1 ?side2 A3.out).mono ?_);(case side1=>exact Kd.C_q a6.out);(case side2=>exact a7.out);rintro e w' ⟨rfl,⟨nd,rfl⟩⟩;refine ⟨_,rfl,?_⟩))
 go_ret
 exact ⟨by first|rfl|(simp;done)|(simp [*];done),by repeat (first|exact Drawn0.refl _|apply Drawn0.step)⟩
def nomination_has.f (k:Nat) (l0:List ByteArray) (a1:ByteArray):Option (Bool):=(slices_Contains_string_string.f k l0 a1).bind fun a2=>(some a2)
theorem nomination_has.mono:∀ a0 a1 k,LeO (nomination_has.f k a0 a1) (nomination_has.f (k + 1) a0 a1):=by
 intro a0 a1 k
 unfold nomination_has.f
 repeat' first
   | (with_reducible apply slices_Contains_string_string.mono)
   | (with_reducible exact LeO.refl _)
   | (with_reducible exact LeO.none _)
   | (with_reducible refine LeO.ite ?_ ?_)
   | (with_reducible refine LeO.bind ?_ (fun _=>?_))
set_option maxHeartbeats 8000000 in
set_option maxRecDepth 100000 in
theorem nomination_has.calls (k:Nat) (A0:Option Addr) (c0:Nat) (l0:List ByteArray) (a1:ByteArray) (r:Bool) (w:World) (a3:Kd.C Kd.string w A0 l0.length l0) (a4:l0.length≤c0) (h:nomination_has.f k l0 a1=some r) :
  Calls Try.prog 42 #[.slice A0 l0.length c0,.string a1] w fun e w'=>e = .returned (.bool r)∧Drawn0 w w':=by
 have a6:=Aside0.mk a3
 have a7:=Aside0.mk a4
 clear a3 a4
 have H:((slices_Contains_string_string.f k l0 a1).bind fun a2=>(some a2))=some r:=h
 clear h
 replace H:=Option.bind_eq_some_iff.mp H
 obtain ⟨a2,a5,H⟩:=H
 replace H:(some a2)=some r:=H
 have A3:=Aside0.mk a5
 clear a5
 obtain rfl:=Option.some.inj H
 go_enter Try.func42,Try.ntmps42
 go_wp2_with (first|((with_reducible refine gate_callee (f:=56) rfl ?_);refine goesL_ (some 7) rfl rfl Try.func56 (by kernel_rfl) rfl #[.slice A0 l0.length c0,.string a1] rfl tz0 ?_;(with_reducible refine (slices_Contains_string_string.calls k _ _ l0 a1 a2 _ ?side1 ?side2 A3.out).mono ?_);(case side1=>exact Kd.C_q a6.out);(case side2=>exact a7.out);rintro e w' ⟨rfl,⟨nd,rfl⟩⟩;refine ⟨_,rfl,?_⟩))
 go_ret
 exact ⟨by first|rfl|(simp;done)|(simp [*];done),by repeat (first|exact Drawn0.refl _|apply Drawn0.step)⟩
def nomination_say.f (a4:Int) (d7:Int) (d8:Int) (a6:Int) (a8:Int) (a3:List Int) (a5:List (S30)) (d9:ByteArray) (a7:List ByteArray) (a9:List ByteArray) (d1:List ByteArray) (d2:List (S48)):Option (Int × Int × Int × List Int × (List (S30)) × List ByteArray × List ByteArray):=some (a4,a6,a8,a3,a5,a7,a9)
set_option maxHeartbeats 8000000 in
set_option maxRecDepth 100000 in
theorem nomination_say.calls (a4:Int) (d7:Int) (d8:Int) (a6:Int) (a8:Int) (b9:Nat→Prop) (b1:Option Addr) (b2:Nat) (a3:List Int) (c0:Nat→Prop) (b3:Option Addr) (b4:Nat) (a5:List (S30)) (d9:ByteArray) (c1:Nat→Prop) (b5:Option Addr) (b6:Nat) (a7:List ByteArray) (d0:Nat→Prop) (b7:Option Addr) (b8:Nat) (a9:List ByteArray) (e0:Option Addr) (e1:Nat) (d1:List ByteArray) (e2:Option Addr) (e3:Nat) (d2:List (S48)) (r1:Int) (r2:Int) (r3:Int) (r4:List Int) (r5:List (S30)) (r6:List ByteArray) (r7:List ByteArray) (w:World) (f2:Kd.V (Kd.int .i64) 3 w w.heap.size (fun k_=>b9 k_) (.slice b1 a3.length b2) a3) (f3:Kd.V k30 30 w w.heap.size (fun k_=>c0 k_) (.slice b3 a5.length b4) a5) (f4:Kd.V Kd.string 9 w w.heap.size (fun k_=>c1 k_) (.slice b5 a7.length b6) a7) (f5:Kd.V Kd.string 9 w w.heap.size (fun k_=>d0 k_) (.slice b7 a9.length b8) a9) (e4:Kd.C Kd.string w e0 d1.length d1) (e5:d1.length≤e1) (e6:Kd.C k48 w e2 d2.length d2) (e7:d2.length≤e3) (h:nomination_say.f a4 d7 d8 a6 a8 a3 a5 d9 a7 a9 d1 d2=some (r1,r2,r3,r4,r5,r6,r7)) :
  Calls Try.prog 28 #[.agg #[.int .i64 a4,.int .i64 d7,.int .i64 d8,.int .i64 a6,.int .i64 a8,.slice b1 a3.length b2,.slice b3 a5.length b4,.string d9,.slice b5 a7.length b6,.slice b7 a9.length b8,.slice e0 d1.length e1,.slice e2 d2.length e3]] w fun e w'=>∃ e8 e9 f0 f1:Value,e = .returned (.agg #[.int .i64 r1,.int .i64 r2,.int .i64 r3,e8,e9,f0,f1])∧Kd.V (Kd.int .i64) 3 w' w.heap.size (fun k_=>((b9 k_∨c0 k_∨c1 k_∨d0 k_)∨w.heap.size≤k_)) e8 r4∧Kd.V k30 30 w' w.heap.size (fun k_=>((b9 k_∨c0 k_∨c1 k_∨d0 k_)∨w.heap.size≤k_)) e9 r5∧Kd.V Kd.string 9 w' w.heap.size (fun k_=>((b9 k_∨c0 k_∨c1 k_∨d0 k_)∨w.heap.size≤k_)) f0 r6∧Kd.V Kd.string 9 w' w.heap.size (fun k_=>((b9 k_∨c0 k_∨c1 k_∨d0 k_)∨w.heap.size≤k_)) f1 r7∧Below w.heap.size w w':=by
 have hu33:=Try.underlying33
 have hu48:=Try.underlying48
 have hu30:=Try.underlying30
 have d3:=Aside0.mk (show Kd.V (Kd.int .i64) 3 w w.heap.size (fun k_=>((b9 k_∨c0 k_∨c1 k_∨d0 k_)∨w.heap.size≤k_)) (.slice b1 a3.length b2) a3 from Kd.V_mono f2 (fun k_ hk=>.inl (.inl hk)))
 have d4:=Aside0.mk (show Kd.V k30 30 w w.heap.size (fun k_=>((b9 k_∨c0 k_∨c1 k_∨d0 k_)∨w.heap.size≤k_)) (.slice b3 a5.length b4) a5 from Kd.V_mono f3 (fun k_ hk=>.inl (.inr (.inl hk))))
 have d5:=Aside0.mk (show Kd.V Kd.string 9 w w.heap.size (fun k_=>((b9 k_∨c0 k_∨c1 k_∨d0 k_)∨w.heap.size≤k_)) (.slice b5 a7.length b6) a7 from Kd.V_mono f4 (fun k_ hk=>.inl (.inr (.inr (.inl hk)))))
 have d6:=Aside0.mk (show Kd.V Kd.string 9 w w.heap.size (fun k_=>((b9 k_∨c0 k_∨c1 k_∨d0 k_)∨w.heap.size≤k_)) (.slice b7 a9.length b8) a9 from Kd.V_mono f5 (fun k_ hk=>.inl (.inr (.inr (.inr hk)))))
 have g0:=Aside0.mk e4
 have g1:=Aside0.mk e5
 clear e4 e5
 have g2:=Aside0.mk e6
 have g3:=Aside0.mk e7
 clear e6 e7
 have HB:=Aside0.mk (Below.refl w.heap.size w)
 have H:(some (a4,a6,a8,a3,a5,a7,a9))=some (r1,r2,r3,r4,r5,r6,r7):=h
 clear h
 simp only [Option.some.injEq,Prod.mk.injEq] at H
 obtain ⟨rfl,rfl,rfl,rfl,rfl,rfl,rfl⟩:=H
 go_enter Try.func28,Try.ntmps28
 go_wp2_with (first|((with_reducible refine gate_dst (N:=1) rfl ?_);refine box_event ?hg (N:=1) ?hd (cs:=#[.int .i64 a4,.int .i64 d7,.int .i64 d8,.int .i64 a6,.int .i64 a8,.slice b1 a3.length b2,.slice b3 a5.length b4,.string d9,.slice b5 a7.length b6,.slice b7 a9.length b8,.slice e0 d1.length e1,.slice e2 d2.length e3]) (t:=33) ?hr ?_;(case hd=>rfl);(case hg=>rfl);(case hr=>first|(go_simp;done)|(go_simp;rfl));intro a2 hg w2 hbox hb;refine ap8 (Kd.V_below (Kd.V_elderB (Kd.V_q d3.out) a2 (Nat.le_of_eq hg.symm)) hb) (Kd.V_below (Kd.V_elderB (Kd.V_q d4.out) a2 (Nat.le_of_eq hg.symm)) hb) (Kd.V_below (Kd.V_elderB (Kd.V_q d5.out) a2 (Nat.le_of_eq hg.symm)) hb) (Kd.V_below (Kd.V_elderB (Kd.V_q d6.out) a2 (Nat.le_of_eq hg.symm)) hb) (below_step (belowP HB) hb) (hbox) ((by rw [hg];exact (below_size (belowP HB)):w.heap.size≤a2)) ((by rw [hg];exact (below_size (belowP HB)):w.heap.size≤a2)) ?_;clear d3 d4 d5 d6 HB;intro d3 d4 d5 d6 HB a1 GW384 f6;clear hb hbox hg)|((with_reducible refine gate_dst (N:=2) rfl ?_);refine box_event ?hg (N:=2) ?hd (cs:=#[.int .i64 0,.int .i64 0,.int .i64 0,.slice none 0 0,.slice none 0 0,.slice none 0 0,.slice none 0 0]) (t:=48) ?hr ?_;(case hd=>rfl);(case hg=>rfl);(case hr=>first|(go_simp;done)|(go_simp;rfl));intro a0 hg w3 hbox hb;refine ap11 (Kd.V_below (Kd.V_elderB (Kd.V_q d3.out) a0 (Nat.le_of_eq hg.symm)) hb) (Kd.V_below (Kd.V_elderB (Kd.V_q d4.out) a0 (Nat.le_of_eq hg.symm)) hb) (Kd.V_below (Kd.V_elderB (Kd.V_q d5.out) a0 (Nat.le_of_eq hg.symm)) hb) (Kd.V_below (Kd.V_elderB (Kd.V_q d6.out) a0 (Nat.le_of_eq hg.symm)) hb) (blk_below (blkP a1) hb) (below_step (belowP HB) hb) (hbox) ((by rw [hg];exact (below_size (belowP HB)):w.heap.size≤a0)) ((by rw [hg];exact (below_size (belowP HB)):w.heap.size≤a0)) ((by rw [hg];exact Nat.ne_of_lt (blk_lt (blkP a1)):a2≠a0)) ((by rw [hg];exact Nat.ne_of_gt (blk_lt (blkP a1)):a0≠a2)) ?_;clear d3 d4 d5 d6 a1 HB;intro d3 d4 d5 d6 a1 HB b0 GW385 f7 f8 f9;clear hb hbox hg;have g4:=f8.out;have g5:=f9.out;have g6:w3.cell? ⟨a2,0,none⟩=some (.int .i64 a4):=(blk_cell a1.out 0).trans rfl;have g7:w3.cell? ⟨a2,1,none⟩=some (.int .i64 d7):=(blk_cell a1.out 1).trans rfl;have g8:w3.cell? ⟨a2,2,none⟩=some (.int .i64 d8):=(blk_cell a1.out 2).trans rfl;have g9:w3.cell? ⟨a2,3,none⟩=some (.int .i64 a6):=(blk_cell a1.out 3).trans rfl;have h0:w3.cell? ⟨a2,4,none⟩=some (.int .i64 a8):=(blk_cell a1.out 4).trans rfl;have h1:w3.cell? ⟨a2,5,none⟩=some (.slice b1 a3.length b2):=(blk_cell a1.out 5).trans rfl;have h2:w3.cell? ⟨a2,6,none⟩=some (.slice b3 a5.length b4):=(blk_cell a1.out 6).trans rfl;have h3:w3.cell? ⟨a2,7,none⟩=some (.string d9):=(blk_cell a1.out 7).trans rfl;have h4:w3.cell? ⟨a2,8,none⟩=some (.slice b5 a7.length b6):=(blk_cell a1.out 8).trans rfl;have h5:w3.cell? ⟨a2,9,none⟩=some (.slice b7 a9.length b8):=(blk_cell a1.out 9).trans rfl;have h6:w3.cell? ⟨a2,10,none⟩=some (.slice e0 d1.length e1):=(blk_cell a1.out 10).trans rfl;have h7:w3.cell? ⟨a2,11,none⟩=some (.slice e2 d2.length e3):=(blk_cell a1.out 11).trans rfl;have h8:=blk_frozen a1.out 0;have h9:=blk_frozen a1.out 1;have i0:=blk_frozen a1.out 2;have i1:=blk_frozen a1.out 3;have i2:=blk_frozen a1.out 4;have i3:=blk_frozen a1.out 5;have i4:=blk_frozen a1.out 6;have i5:=blk_frozen a1.out 7;have i6:=blk_frozen a1.out 8;have i7:=blk_frozen a1.out 9;have i8:=blk_frozen a1.out 10;have i9:=blk_frozen a1.out 11;have j2:w3.cell? ⟨a0,0,none⟩=some (.int .i64 0):=(blk_cell b0.out 0).trans rfl;have j3:w3.cell? ⟨a0,1,none⟩=some (.int .i64 0):=(blk_cell b0.out 1).trans rfl;have j4:w3.cell? ⟨a0,2,none⟩=some (.int .i64 0):=(blk_cell b0.out 2).trans rfl;have j5:w3.cell? ⟨a0,3,none⟩=some (.slice none 0 0):=(blk_cell b0.out 3).trans rfl;have j6:w3.cell? ⟨a0,4,none⟩=some (.slice none 0 0):=(blk_cell b0.out 4).trans rfl;have j7:w3.cell? ⟨a0,5,none⟩=some (.slice none 0 0):=(blk_cell b0.out 5).trans rfl;have j8:w3.cell? ⟨a0,6,none⟩=some (.slice none 0 0):=(blk_cell b0.out 6).trans rfl;have j9:=blk_frozen b0.out 0;have k0:=blk_frozen b0.out 1;have k1:=blk_frozen b0.out 2;have k2:=blk_frozen b0.out 3;have k3:=blk_frozen b0.out 4;have k4:=blk_frozen b0.out 5;have k5:=blk_frozen b0.out 6))
 refine bodyPost_ret (results_cell_row rfl _ _ a0 48 #[.int .i64 a4,.int .i64 a6,.int .i64 a8,.slice b1 a3.length b2,.slice b3 a5.length b4,.slice b5 a7.length b6,.slice b7 a9.length b8] (0,0) _ rfl (by refine blkQ ?_;refine blk_put (cs:=#[.int .i64 a4,.int .i64 a6,.int .i64 a8,.slice b1 a3.length b2,.slice b3 a5.length b4,.slice b5 a7.length b6,.slice none 0 0]) ?_ 6 _ rfl;refine blkQ ?_;refine blk_put (cs:=#[.int .i64 a4,.int .i64 a6,.int .i64 a8,.slice b1 a3.length b2,.slice b3 a5.length b4,.slice none 0 0,.slice none 0 0]) ?_ 5 _ rfl;refine blkQ ?_;refine blk_put (cs:=#[.int .i64 a4,.int .i64 a6,.int .i64 a8,.slice b1 a3.length b2,.slice none 0 0,.slice none 0 0,.slice none 0 0]) ?_ 4 _ rfl;refine blkQ ?_;refine blk_put (cs:=#[.int .i64 a4,.int .i64 a6,.int .i64 a8,.slice none 0 0,.slice none 0 0,.slice none 0 0,.slice none 0 0]) ?_ 3 _ rfl;refine blkQ ?_;refine blk_put (cs:=#[.int .i64 a4,.int .i64 a6,.int .i64 0,.slice none 0 0,.slice none 0 0,.slice none 0 0,.slice none 0 0]) ?_ 2 _ rfl;refine blkQ ?_;refine blk_put (cs:=#[.int .i64 a4,.int .i64 0,.int .i64 0,.slice none 0 0,.slice none 0 0,.slice none 0 0,.slice none 0 0]) ?_ 1 _ rfl;refine blkQ ?_;refine blk_put (cs:=#[.int .i64 0,.int .i64 0,.int .i64 0,.slice none 0 0,.slice none 0 0,.slice none 0 0,.slice none 0 0]) ?_ 0 _ rfl;refine blkQ ?_;exact b0.out) Try.underlying48 rfl (by kernel_rfl)) rfl ?_
 exact ⟨_,_,_,_,rE,by refine Kd.V_q ?_;exact Kd.V_mono (Kd.V_far (p:=⟨a0,6,none⟩) (Kd.V_far (p:=⟨a0,5,none⟩) (Kd.V_far (p:=⟨a0,4,none⟩) (Kd.V_far (p:=⟨a0,3,none⟩) (Kd.V_far (p:=⟨a0,2,none⟩) (Kd.V_far (p:=⟨a0,1,none⟩) (Kd.V_far (p:=⟨a0,0,none⟩) (Kd.V_mono d3.out (fun k_ hk=>(⟨hk,hk.2⟩:_∧k_≠a0))) (fun _ hk=>hk.2) (.int .i64 a4)) (fun _ hk=>hk.2) (.int .i64 a6)) (fun _ hk=>hk.2) (.int .i64 a8)) (fun _ hk=>hk.2) (.slice b1 a3.length b2)) (fun _ hk=>hk.2) (.slice b3 a5.length b4)) (fun _ hk=>hk.2) (.slice b5 a7.length b6)) (fun _ hk=>hk.2) (.slice b7 a9.length b8)) (fun _ hk=>hk.1.1.1),by refine Kd.V_q ?_;exact Kd.V_mono (Kd.V_far (p:=⟨a0,6,none⟩) (Kd.V_far (p:=⟨a0,5,none⟩) (Kd.V_far (p:=⟨a0,4,none⟩) (Kd.V_far (p:=⟨a0,3,none⟩) (Kd.V_far (p:=⟨a0,2,none⟩) (Kd.V_far (p:=⟨a0,1,none⟩) (Kd.V_far (p:=⟨a0,0,none⟩) (Kd.V_mono d4.out (fun k_ hk=>(⟨hk,hk.2⟩:_∧k_≠a0))) (fun _ hk=>hk.2) (.int .i64 a4)) (fun _ hk=>hk.2) (.int .i64 a6)) (fun _ hk=>hk.2) (.int .i64 a8)) (fun _ hk=>hk.2) (.slice b1 a3.length b2)) (fun _ hk=>hk.2) (.slice b3 a5.length b4)) (fun _ hk=>hk.2) (.slice b5 a7.length b6)) (fun _ hk=>hk.2) (.slice b7 a9.length b8)) (fun _ hk=>hk.1.1.1),by refine Kd.V_q ?_;exact Kd.V_mono (Kd.V_far (p:=⟨a0,6,none⟩) (Kd.V_far (p:=⟨a0,5,none⟩) (Kd.V_far (p:=⟨a0,4,none⟩) (Kd.V_far (p:=⟨a0,3,none⟩) (Kd.V_far (p:=⟨a0,2,none⟩) (Kd.V_far (p:=⟨a0,1,none⟩) (Kd.V_far (p:=⟨a0,0,none⟩) (Kd.V_mono d5.out (fun k_ hk=>(⟨hk,hk.2⟩:_∧k_≠a0))) (fun _ hk=>hk.2) (.int .i64 a4)) (fun _ hk=>hk.2) (.int .i64 a6)) (fun _ hk=>hk.2) (.int .i64 a8)) (fun _ hk=>hk.2) (.slice b1 a3.length b2)) (fun _ hk=>hk.2) (.slice b3 a5.length b4)) (fun _ hk=>hk.2) (.slice b5 a7.length b6)) (fun _ hk=>hk.2) (.slice b7 a9.length b8)) (fun _ hk=>hk.1.1.1),by refine Kd.V_q ?_;exact Kd.V_mono (Kd.V_far (p:=⟨a0,6,none⟩) (Kd.V_far (p:=⟨a0,5,none⟩) (Kd.V_far (p:=⟨a0,4,none⟩) (Kd.V_far (p:=⟨a0,3,none⟩) (Kd.V_far (p:=⟨a0,2,none⟩) (Kd.V_far (p:=⟨a0,1,none⟩) (Kd.V_far (p:=⟨a0,0,none⟩) (Kd.V_mono d6.out (fun k_ hk=>(⟨hk,hk.2⟩:_∧k_≠a0))) (fun _ hk=>hk.2) (.int .i64 a4)) (fun _ hk=>hk.2) (.int .i64 a6)) (fun _ hk=>hk.2) (.int .i64 a8)) (fun _ hk=>hk.2) (.slice b1 a3.length b2)) (fun _ hk=>hk.2) (.slice b3 a5.length b4)) (fun _ hk=>hk.2) (.slice b5 a7.length b6)) (fun _ hk=>hk.2) (.slice b7 a9.length b8)) (fun _ hk=>hk.1.1.1),by repeat (first|(with_reducible first|exact HB.out|apply below_alloc|apply pw_below_drewN|apply below_drew1|refine below_set ?_ f6.out|refine below_set ?_ f7.out)|exact HB.out)⟩
def nomination_saying.l0:Nat→ByteArray→Int→Int→List (S48)→Int→Int→Option (Int × Int)
 | 0,_,_,_,_,_,_=>none
 | k + 1,x1,x4,x5,x8,x9,a7=>if a7 < x9 then (if 0≤a7 then (if a7 < (x8.length:Int) then ((nomination_has.f k ((rd_T48 x8 a7).f3) x1).bind fun f5=>(if f5=true then (if 0≤((rd_T48 x8 a7).f0) then ((nomination_has.f k ((rd_T48 x8 a7).f4) x1).bind fun d4=>(if d4=true then (nomination_saying.l0 k x1 (Go.bits .or .i64 x4 (shl .i64 1 ((rd_T48 x8 a7).f0))) (Go.bits .or .i64 x5 (shl .i64 1 ((rd_T48 x8 a7).f0))) x8 x9 (wrap64 (a7 + 1))) else (nomination_saying.l0 k x1 (Go.bits .or .i64 x4 (shl .i64 1 ((rd_T48 x8 a7).f0))) x5 x8 x9 (wrap64 (a7 + 1))))) else (none)) else ((nomination_has.f k ((rd_T48 x8 a7).f4) x1).bind fun f1=>(if f1=true then (if 0≤((rd_T48 x8 a7).f0) then (nomination_saying.l0 k x1 x4 (Go.bits .or .i64 x5 (shl .i64 1 ((rd_T48 x8 a7).f0))) x8 x9 (wrap64 (a7 + 1))) else (none)) else (nomination_saying.l0 k x1 x4 x5 x8 x9 (wrap64 (a7 + 1))))))) else (none)) else (none)) else (some (x4,x5))
def nomination_saying.f (k:Nat) (l0:List (S48)) (a1:ByteArray):Option (Int × Int):=nomination_saying.l0 k a1 0 0 l0 (l0.length:Int) 0
theorem nomination_saying.mono_l:∀ k,(∀ y0 y1 y2 y3 y4 y5,LeO (nomination_saying.l0 k y0 y1 y2 y3 y4 y5) (nomination_saying.l0 (k + 1) y0 y1 y2 y3 y4 y5))
 | 0=>fun _ _ _ _ _ _ r h=>by simp [nomination_saying.l0] at h
 | k + 1=>by
  have f9:=nomination_saying.mono_l k
  ·intro y0 y1 y2 y3 y4 y5
   unfold nomination_saying.l0
   repeat' first
   | (with_reducible exact f9 _ _ _ _ _ _)
   | (with_reducible apply nomination_has.mono)
   | (with_reducible exact LeO.refl _)
   | (with_reducible exact LeO.none _)
   | (with_reducible refine LeO.ite ?_ ?_)
   | (with_reducible refine LeO.bind ?_ (fun _=>?_))
theorem nomination_saying.mono:∀ a0 a1 k,LeO (nomination_saying.f k a0 a1) (nomination_saying.f (k + 1) a0 a1):=by
 intro a0 a1 k
 have f9:=nomination_saying.mono_l k
 unfold nomination_saying.f
 repeat' first
   | (with_reducible exact f9 _ _ _ _ _ _)
   | (with_reducible apply nomination_has.mono)
   | (with_reducible exact LeO.refl _)
   | (with_reducible exact LeO.none _)
   | (with_reducible refine LeO.ite ?_ ?_)
   | (with_reducible refine LeO.bind ?_ (fun _=>?_))
set_option maxHeartbeats 8000000 in
set_option maxRecDepth 100000 in
theorem nomination_saying.calls (k:Nat) (A0:Option Addr) (c0:Nat) (l0:List (S48)) (a1:ByteArray) (r1:Int) (r2:Int) (w:World) (h0:Kd.C k48 w A0 l0.length l0) (h1:l0.length≤c0) (h:nomination_saying.f k l0 a1=some (r1,r2)) :
  Calls Try.prog 29 #[.slice A0 l0.length c0,.string a1] w fun e w'=>e = .returned (.tuple #[.int .i64 r1,.int .i64 r2])∧Below w.heap.size w w':=by
 have hu48:=Try.underlying48
 have f6:=Aside0.mk h0
 have h8:=Aside0.mk h1
 clear h0 h1
 have HB:=Aside0.mk (Below.refl w.heap.size w)
 have H:(nomination_saying.l0 k a1 0 0 l0 (l0.length:Int) 0)=some (r1,r2):=h
 clear h
 have H':=Aside0.mk H
 clear H
 go_enter Try.func29,Try.ntmps29
 go_wp2
 go_loopg [4,5,10] k (fun kq v4 v5 h6 w'=>∃ (a5:Int) (a6:Int) (a2:Int),v4 = .int .i64 a5∧v5 = .int .i64 a6∧h6 = .int .i64 a2∧Aside0 (nomination_saying.l0 kq a1 a5 a6 l0 (l0.length:Int) a2=some (r1,r2))∧Aside0 (kq≤k)∧Aside0 (Below w.heap.size w w'))
 case atStart=>exact ⟨(0),(0),(0),tz3,tz3,tz3,H',⟨Nat.le_refl _⟩,⟨by repeat (first|(with_reducible first|exact HB.out|apply below_alloc|apply pw_below_drewN|apply below_drew1)|exact HB.out)⟩⟩
 case round=>
  clear H'
  try clear HB
  obtain ⟨a5,a6,a2,rfl,rfl,rfl,HA,d5,HB⟩:=hrel
  cases gk with
  | zero=>exact absurd HA.out (by simp [nomination_saying.l0])
  | succ k1=>
   have H:=HA.out
   clear HA
   simp only [nomination_saying.l0] at H
   by_cases c3:a2 < (l0.length:Int)
   ·rw [if_pos c3] at H
    have h7:decide (a2 < (l0.length:Int))=true:=decide_eq_true c3
    clear c3
    by_cases c4:0≤a2
    ·rw [if_pos c4] at H
     have h9:decide (0≤a2)=true:=decide_eq_true c4
     clear c4
     by_cases c5:a2 < (l0.length:Int)
     ·rw [if_pos c5] at H
      have i0:decide (a2 < (l0.length:Int))=true:=decide_eq_true c5
      clear c5
      replace H:=Option.bind_eq_some_iff.mp H
      obtain ⟨f5,h2,H⟩:=H
      replace H:(if f5=true then (if 0≤((rd_T48 l0 a2).f0) then ((nomination_has.f k1 ((rd_T48 l0 a2).f4) a1).bind fun d4=>(if d4=true then (nomination_saying.l0 k1 a1 (Go.bits .or .i64 a5 (shl .i64 1 ((rd_T48 l0 a2).f0))) (Go.bits .or .i64 a6 (shl .i64 1 ((rd_T48 l0 a2).f0))) l0 (l0.length:Int) (wrap64 (a2 + 1))) else (nomination_saying.l0 k1 a1 (Go.bits .or .i64 a5 (shl .i64 1 ((rd_T48 l0 a2).f0))) a6 l0 (l0.length:Int) (wrap64 (a2 + 1))))) else (none)) else ((nomination_has.f k1 ((rd_T48 l0 a2).f4) a1).bind fun f1=>(if f1=true then (if 0≤((rd_T48 l0 a2).f0) then (nomination_saying.l0 k1 a1 a5 (Go.bits .or .i64 a6 (shl .i64 1 ((rd_T48 l0 a2).f0))) l0 (l0.length:Int) (wrap64 (a2 + 1))) else (none)) else (nomination_saying.l0 k1 a1 a5 a6 l0 (l0.length:Int) (wrap64 (a2 + 1))))))=some (r1,r2):=H
      have A6:=Aside0.mk h2
      clear h2
      by_cases c7:f5=true
      ·subst c7
       rw [if_pos rfl] at H
       by_cases c8:0≤((rd_T48 l0 a2).f0)
       ·rw [if_pos c8] at H
        have i1:=eq_true c8
        have i2:decide (0≤((rd_T48 l0 a2).f0))=true:=decide_eq_true c8
        clear c8
        obtain ⟨ji9,hji9⟩:∃ j_:Int,(shl .i64 1 ((rd_T48 l0 a2).f0))=j_:=⟨_,rfl⟩
        replace H:((nomination_has.f k1 ((rd_T48 l0 a2).f4) a1).bind fun d4=>(if d4=true then (nomination_saying.l0 k1 a1 (Go.bits .or .i64 a5 (ji9)) (Go.bits .or .i64 a6 (ji9)) l0 (l0.length:Int) (wrap64 (a2 + 1))) else (nomination_saying.l0 k1 a1 (Go.bits .or .i64 a5 (ji9)) a6 l0 (l0.length:Int) (wrap64 (a2 + 1)))))=some (r1,r2):=by first|(rw [hji9] at H;exact H)|(simp only [hji9] at H ⊢;exact H)
        (try rw [hji9] at A6)
        have hji9_:(IntKind.i64.wrap (1 * 2 ^ min ((rd_T48 l0 a2).f0).toNat 64))=ji9:=hji9
        have hji9z:((rd_T48 l0 a2).f0)≤64→(IntKind.i64.wrap (1 * 2 ^ ((rd_T48 l0 a2).f0).toNat))=ji9:=shl_small hji9
        have hji9u:(IntKind.i64.wrap (2 ^ min ((rd_T48 l0 a2).f0).toNat 64))=ji9:=by have h_:=hji9_;rw [Int.one_mul] at h_;exact h_
        have hji9v:((rd_T48 l0 a2).f0)≤64→(IntKind.i64.wrap (2 ^ ((rd_T48 l0 a2).f0).toNat))=ji9:=fun hle_=>by have h_:=hji9z hle_;rw [Int.one_mul] at h_;exact h_
        have hji9y:(wrap64 (1 * 2 ^ min ((rd_T48 l0 a2).f0).toNat 64))=ji9:=(i64_w _).symm.trans hji9_
        have hji9x:((rd_T48 l0 a2).f0)≤64→(wrap64 (1 * 2 ^ ((rd_T48 l0 a2).f0).toNat))=ji9:=fun h_=>(i64_w _).symm.trans (hji9z h_)
        replace H:=Option.bind_eq_some_iff.mp H
        obtain ⟨d4,h3,H⟩:=H
        replace H:(if d4=true then (nomination_saying.l0 k1 a1 (Go.bits .or .i64 a5 (ji9)) (Go.bits .or .i64 a6 (ji9)) l0 (l0.length:Int) (wrap64 (a2 + 1))) else (nomination_saying.l0 k1 a1 (Go.bits .or .i64 a5 (ji9)) a6 l0 (l0.length:Int) (wrap64 (a2 + 1))))=some (r1,r2):=H
        have h4:=Aside0.mk h3
        clear h3
        by_cases f7:d4=true
        ·subst f7
         rw [if_pos rfl] at H
         have i3:=eq_true (of_decide_eq_true tz2:0≤((rd_T48 l0 a2).f0))
         have H':=Aside0.mk H
         clear H
         have a8:0≤(a2:Int):=of_decide_eq_true tz2
         have a9:a2 < (l0.length:Int):=of_decide_eq_true tz2
         obtain ⟨g0,g1,g2,g3,g4,d6,d7,d8,d9,e0,b0,b1,b2,b3,b4,b5,b6,b7,b8,b9,c1,d0,d1,d2,d3⟩:=at_T48 f6.out a2 a8 a9
         cases e0
         replace b0:=(HB.out.cell (World.block_lt_of_cell? w _ b0)).trans b0
         replace b1:=(HB.out.cell (World.block_lt_of_cell? w _ b1)).trans b1
         replace b2:=(HB.out.cell (World.block_lt_of_cell? w _ b2)).trans b2
         replace b3:=(HB.out.cell (World.block_lt_of_cell? w _ b3)).trans b3
         replace b4:=(HB.out.cell (World.block_lt_of_cell? w _ b4)).trans b4
         replace b5:=(HB.out.cell (World.block_lt_of_cell? w _ b5)).trans b5
         replace b6:=(HB.out.cell (World.block_lt_of_cell? w _ b6)).trans b6
         have g5:=Aside0.mk b8
         have g6:=Aside0.mk b7
         clear b8 b7
         have g7:=Aside0.mk c1
         have g8:=Aside0.mk b9
         clear c1 b9
         have e1:=Aside0.mk d1
         have e2:=Aside0.mk d0
         clear d1 d0
         have e3:=Aside0.mk d3
         have e4:=Aside0.mk d2
         clear d3 d2
         replace a8:=eq_true a8
         replace a9:=eq_true a9
         go_wp2_with (first|((with_reducible refine gate_dst (N:=7) rfl ?_);refine box_event ?hg (N:=7) ?hd (cs:=#[.int .i64 0,.int .i64 0,.int .i64 0,.slice none 0 0,.slice none 0 0,.slice none 0 0,.slice none 0 0]) (t:=48) ?hr ?_;(case hd=>rfl);(case hg=>rfl);(case hr=>first|(go_simp;done)|(go_simp;rfl));intro a4 hg e5 hbox hb;refine ap4 (below_step (belowP HB) hb) (hbox) ((by rw [hg];exact (below_size (belowP HB)):w.heap.size≤a4)) ((by rw [hg];exact (below_size (belowP HB)):w.heap.size≤a4)) ?_;clear HB;intro HB a3 GW390 e6;clear hb hbox hg;have i4:e5.cell? ⟨a4,0,none⟩=some (.int .i64 0):=(blk_cell a3.out 0).trans rfl;have i5:e5.cell? ⟨a4,1,none⟩=some (.int .i64 0):=(blk_cell a3.out 1).trans rfl;have i6:e5.cell? ⟨a4,2,none⟩=some (.int .i64 0):=(blk_cell a3.out 2).trans rfl;have i7:e5.cell? ⟨a4,3,none⟩=some (.slice none 0 0):=(blk_cell a3.out 3).trans rfl;have i8:e5.cell? ⟨a4,4,none⟩=some (.slice none 0 0):=(blk_cell a3.out 4).trans rfl;have i9:e5.cell? ⟨a4,5,none⟩=some (.slice none 0 0):=(blk_cell a3.out 5).trans rfl;have j2:e5.cell? ⟨a4,6,none⟩=some (.slice none 0 0):=(blk_cell a3.out 6).trans rfl;have j3:=blk_frozen a3.out 0;have j4:=blk_frozen a3.out 1;have j5:=blk_frozen a3.out 2;have j6:=blk_frozen a3.out 3;have j7:=blk_frozen a3.out 4;have j8:=blk_frozen a3.out 5;have j9:=blk_frozen a3.out 6)|((with_reducible refine gate_callee (f:=42) rfl ?_);refine goesL_ (some 17) rfl rfl Try.func42 (by kernel_rfl) rfl #[.slice d6 ((rd_T48 l0 a2).f3).length d7,.string a1] rfl tz0 ?_;(with_reducible refine (nomination_has.calls k1 _ _ ((rd_T48 l0 a2).f3) a1 true _ ?side1 ?side2 A6.out).mono ?_);(case side1=>exact Kd.C_below e1.out (belowP HB));(case side2=>exact e2.out);rintro e w' ⟨rfl,⟨nd,rfl⟩⟩;refine ⟨_,rfl,?_⟩)|((with_reducible refine gate_callee (f:=42) rfl ?_);refine goesL_ (some 26) rfl rfl Try.func42 (by kernel_rfl) rfl #[.slice d8 ((rd_T48 l0 a2).f4).length d9,.string a1] rfl tz0 ?_;(with_reducible refine (nomination_has.calls k1 _ _ ((rd_T48 l0 a2).f4) a1 true _ ?side1 ?side2 h4.out).mono ?_);(case side1=>exact Kd.C_below e3.out (belowP HB));(case side2=>exact e4.out);rintro e w' ⟨rfl,⟨nd,rfl⟩⟩;refine ⟨_,rfl,?_⟩))
         go_roundg k1
         case measure=>have:=d5.out;omega
         case rel=>exact ⟨(Go.bits .or .i64 a5 (ji9)),(Go.bits .or .i64 a6 (ji9)),(wrap64 (a2 + 1)),(by first|rfl|(simp;done)|(simp only [← hji9] <;> (first|rfl|simp))|(simp [*];done)),(by first|rfl|(simp;done)|(simp only [← hji9] <;> (first|rfl|simp))|(simp [*];done)),tz3,H',⟨by have:=d5.out;omega⟩,⟨by repeat (first|(with_reducible first|exact HB.out|apply below_alloc|apply pw_below_drewN|apply below_drew1|refine below_set ?_ e6.out)|exact HB.out)⟩⟩
        ·replace f7:=Bool.eq_false_iff.mpr f7
         subst f7
         rw [if_neg (show ¬ (false=true) by decide)] at H
         have H':=Aside0.mk H
         clear H
         have a8:0≤(a2:Int):=of_decide_eq_true tz2
         have a9:a2 < (l0.length:Int):=of_decide_eq_true tz2
         obtain ⟨g0,g1,g2,g3,g4,d6,d7,d8,d9,e0,b0,b1,b2,b3,b4,b5,b6,b7,b8,b9,c1,d0,d1,d2,d3⟩:=at_T48 f6.out a2 a8 a9
         cases e0
         replace b0:=(HB.out.cell (World.block_lt_of_cell? w _ b0)).trans b0
         replace b1:=(HB.out.cell (World.block_lt_of_cell? w _ b1)).trans b1
         replace b2:=(HB.out.cell (World.block_lt_of_cell? w _ b2)).trans b2
         replace b3:=(HB.out.cell (World.block_lt_of_cell? w _ b3)).trans b3
         replace b4:=(HB.out.cell (World.block_lt_of_cell? w _ b4)).trans b4
         replace b5:=(HB.out.cell (World.block_lt_of_cell? w _ b5)).trans b5
         replace b6:=(HB.out.cell (World.block_lt_of_cell? w _ b6)).trans b6
         have g5:=Aside0.mk b8
         have g6:=Aside0.mk b7
         clear b8 b7
         have g7:=Aside0.mk c1
         have g8:=Aside0.mk b9
         clear c1 b9
         have e1:=Aside0.mk d1
         have e2:=Aside0.mk d0
         clear d1 d0
         have e3:=Aside0.mk d3
         have e4:=Aside0.mk d2
         clear d3 d2
         replace a8:=eq_true a8
         replace a9:=eq_true a9
         go_wp2_with (first|((with_reducible refine gate_dst (N:=7) rfl ?_);refine box_event ?hg (N:=7) ?hd (cs:=#[.int .i64 0,.int .i64 0,.int .i64 0,.slice none 0 0,.slice none 0 0,.slice none 0 0,.slice none 0 0]) (t:=48) ?hr ?_;(case hd=>rfl);(case hg=>rfl);(case hr=>first|(go_simp;done)|(go_simp;rfl));intro a4 hg e7 hbox hb;refine ap4 (below_step (belowP HB) hb) (hbox) ((by rw [hg];exact (below_size (belowP HB)):w.heap.size≤a4)) ((by rw [hg];exact (below_size (belowP HB)):w.heap.size≤a4)) ?_;clear HB;intro HB a3 GW390 e6;clear hb hbox hg;have k0:e7.cell? ⟨a4,0,none⟩=some (.int .i64 0):=(blk_cell a3.out 0).trans rfl;have k2:e7.cell? ⟨a4,1,none⟩=some (.int .i64 0):=(blk_cell a3.out 1).trans rfl;have k3:e7.cell? ⟨a4,2,none⟩=some (.int .i64 0):=(blk_cell a3.out 2).trans rfl;have k4:e7.cell? ⟨a4,3,none⟩=some (.slice none 0 0):=(blk_cell a3.out 3).trans rfl;have k5:e7.cell? ⟨a4,4,none⟩=some (.slice none 0 0):=(blk_cell a3.out 4).trans rfl;have k6:e7.cell? ⟨a4,5,none⟩=some (.slice none 0 0):=(blk_cell a3.out 5).trans rfl;have k7:e7.cell? ⟨a4,6,none⟩=some (.slice none 0 0):=(blk_cell a3.out 6).trans rfl;have k8:=blk_frozen a3.out 0;have k9:=blk_frozen a3.out 1;have l3:=blk_frozen a3.out 2;have l4:=blk_frozen a3.out 3;have l5:=blk_frozen a3.out 4;have l6:=blk_frozen a3.out 5;have l7:=blk_frozen a3.out 6)|((with_reducible refine gate_callee (f:=42) rfl ?_);refine goesL_ (some 17) rfl rfl Try.func42 (by kernel_rfl) rfl #[.slice d6 ((rd_T48 l0 a2).f3).length d7,.string a1] rfl tz0 ?_;(with_reducible refine (nomination_has.calls k1 _ _ ((rd_T48 l0 a2).f3) a1 true _ ?side1 ?side2 A6.out).mono ?_);(case side1=>exact Kd.C_below e1.out (belowP HB));(case side2=>exact e2.out);rintro e w' ⟨rfl,⟨nd,rfl⟩⟩;refine ⟨_,rfl,?_⟩)|((with_reducible refine gate_callee (f:=42) rfl ?_);refine goesL_ (some 26) rfl rfl Try.func42 (by kernel_rfl) rfl #[.slice d8 ((rd_T48 l0 a2).f4).length d9,.string a1] rfl tz0 ?_;(with_reducible refine (nomination_has.calls k1 _ _ ((rd_T48 l0 a2).f4) a1 false _ ?side1 ?side2 h4.out).mono ?_);(case side1=>exact Kd.C_below e3.out (belowP HB));(case side2=>exact e4.out);rintro e w' ⟨rfl,⟨nd,rfl⟩⟩;refine ⟨_,rfl,?_⟩))
         go_roundg k1
         case measure=>have:=d5.out;omega
         case rel=>exact ⟨(Go.bits .or .i64 a5 (ji9)),(a6),(wrap64 (a2 + 1)),(by first|rfl|(simp;done)|(simp only [← hji9] <;> (first|rfl|simp))|(simp [*];done)),tz3,tz3,H',⟨by have:=d5.out;omega⟩,⟨by repeat (first|(with_reducible first|exact HB.out|apply below_alloc|apply pw_below_drewN|apply below_drew1|refine below_set ?_ e6.out)|exact HB.out)⟩⟩
       ·rw [if_neg c8] at H
        exact absurd H (by simp)
      ·replace c7:=Bool.eq_false_iff.mpr c7
       subst c7
       rw [if_neg (show ¬ (false=true) by decide)] at H
       replace H:=Option.bind_eq_some_iff.mp H
       obtain ⟨f1,h5,H⟩:=H
       replace H:(if f1=true then (if 0≤((rd_T48 l0 a2).f0) then (nomination_saying.l0 k1 a1 a5 (Go.bits .or .i64 a6 (shl .i64 1 ((rd_T48 l0 a2).f0))) l0 (l0.length:Int) (wrap64 (a2 + 1))) else (none)) else (nomination_saying.l0 k1 a1 a5 a6 l0 (l0.length:Int) (wrap64 (a2 + 1))))=some (r1,r2):=H
       have g9:=Aside0.mk h5
       clear h5
       by_cases f8:f1=true
       ·subst f8
        rw [if_pos rfl] at H
        by_cases f2:0≤((rd_T48 l0 a2).f0)
        ·rw [if_pos f2] at H
         have l8:=eq_true f2
         have l9:decide (0≤((rd_T48 l0 a2).f0))=true:=decide_eq_true f2
         clear f2
         obtain ⟨ji20,hji20⟩:∃ j_:Int,(shl .i64 1 ((rd_T48 l0 a2).f0))=j_:=⟨_,rfl⟩
         replace H:(nomination_saying.l0 k1 a1 a5 (Go.bits .or .i64 a6 (ji20)) l0 (l0.length:Int) (wrap64 (a2 + 1)))=some (r1,r2):=by first|(rw [hji20] at H;exact H)|(simp only [hji20] at H ⊢;exact H)
         (try rw [hji20] at A6)
         (try rw [hji20] at g9)
         have hji20_:(IntKind.i64.wrap (1 * 2 ^ min ((rd_T48 l0 a2).f0).toNat 64))=ji20:=hji20
         have hji20z:((rd_T48 l0 a2).f0)≤64→(IntKind.i64.wrap (1 * 2 ^ ((rd_T48 l0 a2).f0).toNat))=ji20:=shl_small hji20
         have hji20u:(IntKind.i64.wrap (2 ^ min ((rd_T48 l0 a2).f0).toNat 64))=ji20:=by have h_:=hji20_;rw [Int.one_mul] at h_;exact h_
         have hji20v:((rd_T48 l0 a2).f0)≤64→(IntKind.i64.wrap (2 ^ ((rd_T48 l0 a2).f0).toNat))=ji20:=fun hle_=>by have h_:=hji20z hle_;rw [Int.one_mul] at h_;exact h_
         have hji20y:(wrap64 (1 * 2 ^ min ((rd_T48 l0 a2).f0).toNat 64))=ji20:=(i64_w _).symm.trans hji20_
         have hji20x:((rd_T48 l0 a2).f0)≤64→(wrap64 (1 * 2 ^ ((rd_T48 l0 a2).f0).toNat))=ji20:=fun h_=>(i64_w _).symm.trans (hji20z h_)
         have H':=Aside0.mk H
         clear H
         have a8:0≤(a2:Int):=of_decide_eq_true tz2
         have a9:a2 < (l0.length:Int):=of_decide_eq_true tz2
         obtain ⟨g0,g1,g2,g3,g4,d6,d7,d8,d9,e0,b0,b1,b2,b3,b4,b5,b6,b7,b8,b9,c1,d0,d1,d2,d3⟩:=at_T48 f6.out a2 a8 a9
         cases e0
         replace b0:=(HB.out.cell (World.block_lt_of_cell? w _ b0)).trans b0
         replace b1:=(HB.out.cell (World.block_lt_of_cell? w _ b1)).trans b1
         replace b2:=(HB.out.cell (World.block_lt_of_cell? w _ b2)).trans b2
         replace b3:=(HB.out.cell (World.block_lt_of_cell? w _ b3)).trans b3
         replace b4:=(HB.out.cell (World.block_lt_of_cell? w _ b4)).trans b4
         replace b5:=(HB.out.cell (World.block_lt_of_cell? w _ b5)).trans b5
         replace b6:=(HB.out.cell (World.block_lt_of_cell? w _ b6)).trans b6
         have g5:=Aside0.mk b8
         have g6:=Aside0.mk b7
         clear b8 b7
         have g7:=Aside0.mk c1
         have g8:=Aside0.mk b9
         clear c1 b9
         have e1:=Aside0.mk d1
         have e2:=Aside0.mk d0
         clear d1 d0
         have e3:=Aside0.mk d3
         have e4:=Aside0.mk d2
         clear d3 d2
         replace a8:=eq_true a8
         replace a9:=eq_true a9
         go_wp2_with (first|((with_reducible refine gate_dst (N:=7) rfl ?_);refine box_event ?hg (N:=7) ?hd (cs:=#[.int .i64 0,.int .i64 0,.int .i64 0,.slice none 0 0,.slice none 0 0,.slice none 0 0,.slice none 0 0]) (t:=48) ?hr ?_;(case hd=>rfl);(case hg=>rfl);(case hr=>first|(go_simp;done)|(go_simp;rfl));intro a4 hg e8 hbox hb;refine ap4 (below_step (belowP HB) hb) (hbox) ((by rw [hg];exact (below_size (belowP HB)):w.heap.size≤a4)) ((by rw [hg];exact (below_size (belowP HB)):w.heap.size≤a4)) ?_;clear HB;intro HB a3 GW390 e6;clear hb hbox hg;have m0:e8.cell? ⟨a4,0,none⟩=some (.int .i64 0):=(blk_cell a3.out 0).trans rfl;have m1:e8.cell? ⟨a4,1,none⟩=some (.int .i64 0):=(blk_cell a3.out 1).trans rfl;have m2:e8.cell? ⟨a4,2,none⟩=some (.int .i64 0):=(blk_cell a3.out 2).trans rfl;have m3:e8.cell? ⟨a4,3,none⟩=some (.slice none 0 0):=(blk_cell a3.out 3).trans rfl;have m4:e8.cell? ⟨a4,4,none⟩=some (.slice none 0 0):=(blk_cell a3.out 4).trans rfl;have m5:e8.cell? ⟨a4,5,none⟩=some (.slice none 0 0):=(blk_cell a3.out 5).trans rfl;have m6:e8.cell? ⟨a4,6,none⟩=some (.slice none 0 0):=(blk_cell a3.out 6).trans rfl;have m7:=blk_frozen a3.out 0;have m8:=blk_frozen a3.out 1;have m9:=blk_frozen a3.out 2;have n0:=blk_frozen a3.out 3;have n1:=blk_frozen a3.out 4;have n2:=blk_frozen a3.out 5;have n3:=blk_frozen a3.out 6)|((with_reducible refine gate_callee (f:=42) rfl ?_);refine goesL_ (some 17) rfl rfl Try.func42 (by kernel_rfl) rfl #[.slice d6 ((rd_T48 l0 a2).f3).length d7,.string a1] rfl tz0 ?_;(with_reducible refine (nomination_has.calls k1 _ _ ((rd_T48 l0 a2).f3) a1 false _ ?side1 ?side2 A6.out).mono ?_);(case side1=>exact Kd.C_below e1.out (belowP HB));(case side2=>exact e2.out);rintro e w' ⟨rfl,⟨nd,rfl⟩⟩;refine ⟨_,rfl,?_⟩)|((with_reducible refine gate_callee (f:=42) rfl ?_);refine goesL_ (some 26) rfl rfl Try.func42 (by kernel_rfl) rfl #[.slice d8 ((rd_T48 l0 a2).f4).length d9,.string a1] rfl tz0 ?_;(with_reducible refine (nomination_has.calls k1 _ _ ((rd_T48 l0 a2).f4) a1 true _ ?side1 ?side2 g9.out).mono ?_);(case side1=>exact Kd.C_below e3.out (belowP HB));(case side2=>exact e4.out);rintro e w' ⟨rfl,⟨nd,rfl⟩⟩;refine ⟨_,rfl,?_⟩))
         go_roundg k1
         case measure=>have:=d5.out;omega
         case rel=>exact ⟨(a5),(Go.bits .or .i64 a6 (ji20)),(wrap64 (a2 + 1)),tz3,(by first|rfl|(simp;done)|(simp only [← hji20] <;> (first|rfl|simp))|(simp [*];done)),tz3,H',⟨by have:=d5.out;omega⟩,⟨by repeat (first|(with_reducible first|exact HB.out|apply below_alloc|apply pw_below_drewN|apply below_drew1|refine below_set ?_ e6.out)|exact HB.out)⟩⟩
        ·rw [if_neg f2] at H
         exact absurd H (by simp)
       ·replace f8:=Bool.eq_false_iff.mpr f8
        subst f8
        rw [if_neg (show ¬ (false=true) by decide)] at H
        have H':=Aside0.mk H
        clear H
        have a8:0≤(a2:Int):=of_decide_eq_true tz2
        have a9:a2 < (l0.length:Int):=of_decide_eq_true tz2
        obtain ⟨g0,g1,g2,g3,g4,d6,d7,d8,d9,e0,b0,b1,b2,b3,b4,b5,b6,b7,b8,b9,c1,d0,d1,d2,d3⟩:=at_T48 f6.out a2 a8 a9
        cases e0
        replace b0:=(HB.out.cell (World.block_lt_of_cell? w _ b0)).trans b0
        replace b1:=(HB.out.cell (World.block_lt_of_cell? w _ b1)).trans b1
        replace b2:=(HB.out.cell (World.block_lt_of_cell? w _ b2)).trans b2
        replace b3:=(HB.out.cell (World.block_lt_of_cell? w _ b3)).trans b3
        replace b4:=(HB.out.cell (World.block_lt_of_cell? w _ b4)).trans b4
        replace b5:=(HB.out.cell (World.block_lt_of_cell? w _ b5)).trans b5
        replace b6:=(HB.out.cell (World.block_lt_of_cell? w _ b6)).trans b6
        have g5:=Aside0.mk b8
        have g6:=Aside0.mk b7
        clear b8 b7
        have g7:=Aside0.mk c1
        have g8:=Aside0.mk b9
        clear c1 b9
        have e1:=Aside0.mk d1
        have e2:=Aside0.mk d0
        clear d1 d0
        have e3:=Aside0.mk d3
        have e4:=Aside0.mk d2
        clear d3 d2
        replace a8:=eq_true a8
        replace a9:=eq_true a9
        go_wp2_with (first|((with_reducible refine gate_dst (N:=7) rfl ?_);refine box_event ?hg (N:=7) ?hd (cs:=#[.int .i64 0,.int .i64 0,.int .i64 0,.slice none 0 0,.slice none 0 0,.slice none 0 0,.slice none 0 0]) (t:=48) ?hr ?_;(case hd=>rfl);(case hg=>rfl);(case hr=>first|(go_simp;done)|(go_simp;rfl));intro a4 hg e9 hbox hb;refine ap4 (below_step (belowP HB) hb) (hbox) ((by rw [hg];exact (below_size (belowP HB)):w.heap.size≤a4)) ((by rw [hg];exact (below_size (belowP HB)):w.heap.size≤a4)) ?_;clear HB;intro HB a3 GW390 e6;clear hb hbox hg;have n4:e9.cell? ⟨a4,0,none⟩=some (.int .i64 0):=(blk_cell a3.out 0).trans rfl;have n5:e9.cell? ⟨a4,1,none⟩=some (.int .i64 0):=(blk_cell a3.out 1).trans rfl;have n6:e9.cell? ⟨a4,2,none⟩=some (.int .i64 0):=(blk_cell a3.out 2).trans rfl;have n7:e9.cell? ⟨a4,3,none⟩=some (.slice none 0 0):=(blk_cell a3.out 3).trans rfl;have n8:e9.cell? ⟨a4,4,none⟩=some (.slice none 0 0):=(blk_cell a3.out 4).trans rfl;have n9:e9.cell? ⟨a4,5,none⟩=some (.slice none 0 0):=(blk_cell a3.out 5).trans rfl;have o0:e9.cell? ⟨a4,6,none⟩=some (.slice none 0 0):=(blk_cell a3.out 6).trans rfl;have o1:=blk_frozen a3.out 0;have o2:=blk_frozen a3.out 1;have o3:=blk_frozen a3.out 2;have o4:=blk_frozen a3.out 3;have o5:=blk_frozen a3.out 4;have o6:=blk_frozen a3.out 5;have o7:=blk_frozen a3.out 6)|((with_reducible refine gate_callee (f:=42) rfl ?_);refine goesL_ (some 17) rfl rfl Try.func42 (by kernel_rfl) rfl #[.slice d6 ((rd_T48 l0 a2).f3).length d7,.string a1] rfl tz0 ?_;(with_reducible refine (nomination_has.calls k1 _ _ ((rd_T48 l0 a2).f3) a1 false _ ?side1 ?side2 A6.out).mono ?_);(case side1=>exact Kd.C_below e1.out (belowP HB));(case side2=>exact e2.out);rintro e w' ⟨rfl,⟨nd,rfl⟩⟩;refine ⟨_,rfl,?_⟩)|((with_reducible refine gate_callee (f:=42) rfl ?_);refine goesL_ (some 26) rfl rfl Try.func42 (by kernel_rfl) rfl #[.slice d8 ((rd_T48 l0 a2).f4).length d9,.string a1] rfl tz0 ?_;(with_reducible refine (nomination_has.calls k1 _ _ ((rd_T48 l0 a2).f4) a1 false _ ?side1 ?side2 g9.out).mono ?_);(case side1=>exact Kd.C_below e3.out (belowP HB));(case side2=>exact e4.out);rintro e w' ⟨rfl,⟨nd,rfl⟩⟩;refine ⟨_,rfl,?_⟩))
        go_roundg k1
        case measure=>have:=d5.out;omega
        case rel=>exact ⟨(a5),(a6),(wrap64 (a2 + 1)),tz3,tz3,tz3,H',⟨by have:=d5.out;omega⟩,⟨by repeat (first|(with_reducible first|exact HB.out|apply below_alloc|apply pw_below_drewN|apply below_drew1|refine below_set ?_ e6.out)|exact HB.out)⟩⟩
     ·rw [if_neg c5] at H
      exact absurd H (by simp)
    ·rw [if_neg c4] at H
     exact absurd H (by simp)
   ·rw [if_neg c3] at H
    have h7:decide (a2 < (l0.length:Int))=false:=decide_eq_false c3
    clear c3
    simp only [Option.some.injEq,Prod.mk.injEq] at H
    obtain ⟨rfl,rfl⟩:=H
    go_wp2
    go_ret2
    exact ⟨rE,by repeat (first|(with_reducible first|exact HB.out|apply below_alloc|apply pw_below_drewN|apply below_drew1)|exact HB.out)⟩
def nomination_next.l0:Nat→List (S48)→List ByteArray→Int→Int→Int→Int→Int→Int→Int→List Int→List (S30)→ByteArray→List ByteArray→List ByteArray→List ByteArray→List (S48)→List (S87)→Option (ByteArray × Bool)
 | 0,_,_,_,_,_,_,_,_,_,_,_,_,_,_,_,_,_=>none
 | k + 1,x6,h1,j7,g3,j8,k9,l3,l4,l5,l6,l7,l8,l9,j3,m0,m1,j9=>if g3 < j7 then (if 0≤g3 then (if g3 < (h1.length:Int) then ((nomination_saying.f k x6 (rdOf ByteArray.empty h1 g3)).bind fun n6=>((nomination_has.f k j3 (rdOf ByteArray.empty h1 g3)).bind fun h4=>(if h4=true then (nomination_next.l0 k x6 h1 j7 (wrap64 (g3 + 1)) j8 k9 l3 l4 l5 l6 l7 l8 l9 j3 m0 m1 j9) else (if (j3.length:Int) < 40 then ((federated_Accepts.f k j9 j8 n6.1 n6.2).bind fun g8=>(if g8=true then (some (rdOf ByteArray.empty h1 g3,true)) else (nomination_next.l0 k x6 h1 j7 (wrap64 (g3 + 1)) j8 k9 l3 l4 l5 l6 l7 l8 l9 j3 m0 m1 j9))) else (nomination_next.l0 k x6 h1 j7 (wrap64 (g3 + 1)) j8 k9 l3 l4 l5 l6 l7 l8 l9 j3 m0 m1 j9))))) else (none)) else (none)) else (some ((⟨#[]⟩:ByteArray),false))
def nomination_next.f (k:Nat) (b8:Int) (d1:Int) (d2:Int) (d3:Int) (d4:Int) (b9:List Int) (c0:List (S30)) (d5:ByteArray) (c1:List ByteArray) (b5:List ByteArray) (d0:List ByteArray) (b6:List (S48)) (d7:List (S87)):Option (ByteArray × Bool):=(api_Nomination.f b6).bind fun e4=>((nomination_say.f b8 d1 d2 d3 d4 b9 c0 d5 c1 b5 d0 b6).bind fun e1=>(if e4.length < 1172812402961 then ((some (e4 ++ [(⟨e1.1,e1.2.1,(⟨e1.2.2.1,e1.2.2.2.1,e1.2.2.2.2.1⟩:S30),e1.2.2.2.2.2.1,e1.2.2.2.2.2.2⟩:S48)]:List (S48))).bind fun b7=>((nomination_all.f k b7).bind fun b2=>(nomination_next.l0 k b7 b2 (b2.length:Int) 0 b8 d1 d2 d3 d4 b9 c0 d5 c1 b5 d0 b6 d7))) else (none)))
theorem nomination_next.mono_l:∀ k,(∀ y0 y1 y2 y3 y4 y5 y6 y7 y8 y9 m2 m3 m4 m5 m6 m7 m8,LeO (nomination_next.l0 k y0 y1 y2 y3 y4 y5 y6 y7 y8 y9 m2 m3 m4 m5 m6 m7 m8) (nomination_next.l0 (k + 1) y0 y1 y2 y3 y4 y5 y6 y7 y8 y9 m2 m3 m4 m5 m6 m7 m8))
 | 0=>fun _ _ _ _ _ _ _ _ _ _ _ _ _ _ _ _ _ r h=>by simp [nomination_next.l0] at h
 | k + 1=>by
  have m9:=nomination_next.mono_l k
  ·intro y0 y1 y2 y3 y4 y5 y6 y7 y8 y9 m2 m3 m4 m5 m6 m7 m8
   unfold nomination_next.l0
   repeat' first
   | (with_reducible exact m9 _ _ _ _ _ _ _ _ _ _ _ _ _ _ _ _ _)
   | (with_reducible apply federated_Accepts.mono)
   | (with_reducible apply nomination_all.mono)
   | (with_reducible apply nomination_has.mono)
   | (with_reducible apply nomination_saying.mono)
   | (with_reducible exact LeO.refl _)
   | (with_reducible exact LeO.none _)
   | (with_reducible refine LeO.ite ?_ ?_)
   | (with_reducible refine LeO.bind ?_ (fun _=>?_))
theorem nomination_next.mono:∀ a0 a1 a2 a3 a4 a5 a6 a7 a8 a9 n0 n1 n2 k,LeO (nomination_next.f k a0 a1 a2 a3 a4 a5 a6 a7 a8 a9 n0 n1 n2) (nomination_next.f (k + 1) a0 a1 a2 a3 a4 a5 a6 a7 a8 a9 n0 n1 n2):=by
 intro a0 a1 a2 a3 a4 a5 a6 a7 a8 a9 n0 n1 n2 k
 have m9:=nomination_next.mono_l k
 unfold nomination_next.f
 repeat' first
   | (with_reducible exact m9 _ _ _ _ _ _ _ _ _ _ _ _ _ _ _ _ _)
   | (with_reducible apply federated_Accepts.mono)
   | (with_reducible apply nomination_all.mono)
   | (with_reducible apply nomination_has.mono)
   | (with_reducible apply nomination_saying.mono)
   | (with_reducible exact LeO.refl _)
   | (with_reducible exact LeO.none _)
   | (with_reducible refine LeO.ite ?_ ?_)
   | (with_reducible refine LeO.bind ?_ (fun _=>?_))
def nomination_next.T1:Bool × List (List Nat × List Nat):=(true,[([],[]),([0],[0]),([1],[1]),([],[]),([3,2],[3]),([4],[4]),([2,5,4],[2,5]),([6,6,0,1,2,3,4,5,6],[6])])
def nomination_next.B1:List Nat:=[0,1,3,0,15,31,63,127]
theorem nomination_next.tab1:rtab .any (opsOf Try.f25 1)=nomination_next.T1:=by kernel_rfl
theorem nomination_next.bits1:waitsOk nomination_next.T1.2 nomination_next.B1=true:=by kernel_rfl
set_option maxHeartbeats 8000000 in
set_option maxRecDepth 100000 in
theorem nomination_next.calls (k:Nat) (b8:Int) (d1:Int) (d2:Int) (d3:Int) (d4:Int) (f5:Option Addr) (f6:Nat) (b9:List Int) (f7:Option Addr) (f8:Nat) (c0:List (S30)) (d5:ByteArray) (f9:Option Addr) (g0:Nat) (c1:List ByteArray) (e5:Option Addr) (e6:Nat) (b5:List ByteArray) (g1:Option Addr) (g2:Nat) (d0:List ByteArray) (f3:Option Addr) (f4:Nat) (b6:List (S48)) (h5:Option Addr) (h6:Nat) (d7:List (S87)) (r1:ByteArray) (r2:Bool) (w:World) (n7:Kd.C (Kd.int .i64) w f5 b9.length b9) (n8:b9.length≤f6) (n9:Kd.C k30 w f7 c0.length c0) (o0:c0.length≤f8) (o1:Kd.C Kd.string w f9 c1.length c1) (o2:c1.length≤g0) (o3:Kd.C Kd.string w e5 b5.length b5) (o4:b5.length≤e6) (o5:Kd.C Kd.string w g1 d0.length d0) (o6:d0.length≤g2) (o7:Kd.C k48 w f3 b6.length b6) (o8:b6.length≤f4) (o9:Kd.C k87 w h5 d7.length d7) (p0:d7.length≤h6) (h:nomination_next.f k b8 d1 d2 d3 d4 b9 c0 d5 c1 b5 d0 b6 d7=some (r1,r2)) :
  Calls Try.prog 25 #[.agg #[.int .i64 b8,.int .i64 d1,.int .i64 d2,.int .i64 d3,.int .i64 d4,.slice f5 b9.length f6,.slice f7 c0.length f8,.string d5,.slice f9 c1.length g0,.slice e5 b5.length e6,.slice g1 d0.length g2,.slice f3 b6.length f4],.agg #[.slice h5 d7.length h6]] w fun e w'=>e = .returned (.tuple #[.string r1,.bool r2])∧Below w.heap.size w w':=by
 have hu33:=Try.underlying33
 have hu53:=Try.underlying53
 have r0:=Aside0.mk n7
 have r3:=Aside0.mk n8
 clear n7 n8
 have r4:=Aside0.mk n9
 have r5:=Aside0.mk o0
 clear n9 o0
 have r6:=Aside0.mk o1
 have r7:=Aside0.mk o2
 clear o1 o2
 have j4:=Aside0.mk o3
 have j5:=Aside0.mk o4
 clear o3 o4
 have r8:=Aside0.mk o5
 have r9:=Aside0.mk o6
 clear o5 o6
 have p1:=Aside0.mk o7
 have p2:=Aside0.mk o8
 clear o7 o8
 have p3:=Aside0.mk o9
 have p4:=Aside0.mk p0
 clear o9 p0
 have HB:=Aside0.mk (Below.refl w.heap.size w)
 have H:((api_Nomination.f b6).bind fun e4=>((nomination_say.f b8 d1 d2 d3 d4 b9 c0 d5 c1 b5 d0 b6).bind fun e1=>(if e4.length < 1172812402961 then ((some (e4 ++ [(⟨e1.1,e1.2.1,(⟨e1.2.2.1,e1.2.2.2.1,e1.2.2.2.2.1⟩:S30),e1.2.2.2.2.2.1,e1.2.2.2.2.2.2⟩:S48)]:List (S48))).bind fun b7=>((nomination_all.f k b7).bind fun b2=>(nomination_next.l0 k b7 b2 (b2.length:Int) 0 b8 d1 d2 d3 d4 b9 c0 d5 c1 b5 d0 b6 d7))) else (none))))=some (r1,r2):=h
 clear h
 replace H:=Option.bind_eq_some_iff.mp H
 obtain ⟨e4,j6,H⟩:=H
 replace H:((nomination_say.f b8 d1 d2 d3 d4 b9 c0 d5 c1 b5 d0 b6).bind fun e1=>(if e4.length < 1172812402961 then ((some (e4 ++ [(⟨e1.1,e1.2.1,(⟨e1.2.2.1,e1.2.2.2.1,e1.2.2.2.2.1⟩:S30),e1.2.2.2.2.2.1,e1.2.2.2.2.2.2⟩:S48)]:List (S48))).bind fun b7=>((nomination_all.f k b7).bind fun b2=>(nomination_next.l0 k b7 b2 (b2.length:Int) 0 b8 d1 d2 d3 d4 b9 c0 d5 c1 b5 d0 b6 d7))) else (none)))=some (r1,r2):=H
 have A3:=Aside0.mk j6
 clear j6
 replace H:=Option.bind_eq_some_iff.mp H
 obtain ⟨⟨h7,h8,h9,i0,i1,i2,i3⟩,p5,H⟩:=H
 replace H:(if e4.length < 1172812402961 then ((some (e4 ++ [(⟨h7,h8,(⟨h9,i0,i1⟩:S30),i2,i3⟩:S48)]:List (S48))).bind fun b7=>((nomination_all.f k b7).bind fun b2=>(nomination_next.l0 k b7 b2 (b2.length:Int) 0 b8 d1 d2 d3 d4 b9 c0 d5 c1 b5 d0 b6 d7))) else (none))=some (r1,r2):=H
 have A4:=Aside0.mk p5
 clear p5
 by_cases c5:e4.length < 1172812402961
 ·rw [if_pos c5] at H
  have LMc5:=Aside0.mk c5
  clear c5
  obtain ⟨b7,n3⟩:∃ y_:List (S48),y_=(e4 ++ [(⟨h7,h8,(⟨h9,i0,i1⟩:S30),i2,i3⟩:S48)]):=⟨_,rfl⟩
  replace H:((nomination_all.f k b7).bind fun b2=>(nomination_next.l0 k b7 b2 (b2.length:Int) 0 b8 d1 d2 d3 d4 b9 c0 d5 c1 b5 d0 b6 d7))=some (r1,r2):=rH n3 H
  have s0:=Aside0.mk n3
  clear n3
  replace H:=Option.bind_eq_some_iff.mp H
  obtain ⟨b2,p6,H⟩:=H
  replace H:(nomination_next.l0 k b7 b2 (b2.length:Int) 0 b8 d1 d2 d3 d4 b9 c0 d5 c1 b5 d0 b6 d7)=some (r1,r2):=H
  have A6:=Aside0.mk p6
  clear p6
  have H':=Aside0.mk H
  clear H
  go_enter Try.func25,Try.ntmps25
  try go_wp2_with (first|((with_reducible refine gate_dst (N:=2) rfl ?_);(try (refine gate_guard (by rfl) ?_;dsimp only));refine box_event ?hg (N:=2) ?hd (cs:=#[.int .i64 b8,.int .i64 d1,.int .i64 d2,.int .i64 d3,.int .i64 d4,.slice f5 b9.length f6,.slice f7 c0.length f8,.string d5,.slice f9 c1.length g0,.slice e5 b5.length e6,.slice g1 d0.length g2,.slice f3 b6.length f4]) (t:=33) ?hr ?_;(case hd=>rfl);(case hg=>rfl);(case hr=>first|(go_simp;done)|(go_simp;rfl));intro b1 hg w7 hbox hb;refine ap4 (below_step (belowP HB) hb) (hbox) ((by rw [hg];exact (below_size (belowP HB)):w.heap.size≤b1)) ((by rw [hg];exact (below_size (belowP HB)):w.heap.size≤b1)) ?_;clear HB;intro HB b0 GW438 i4;clear hb hbox hg)|((with_reducible refine gate_dst (N:=3) rfl ?_);(try (refine gate_guard (by rfl) ?_;dsimp only));refine box_event ?hg (N:=3) ?hd (cs:=#[.slice h5 d7.length h6]) (t:=53) ?hr ?_;(case hd=>rfl);(case hg=>rfl);(case hr=>first|(go_simp;done)|(go_simp;rfl));intro d8 hg w8 hbox hb;refine ap7 (blk_below (blkP b0) hb) (below_step (belowP HB) hb) (hbox) ((by rw [hg];exact (below_size (belowP HB)):w.heap.size≤d8)) ((by rw [hg];exact (below_size (belowP HB)):w.heap.size≤d8)) ((by rw [hg];exact Nat.ne_of_lt (blk_lt (blkP b0)):b1≠d8)) ((by rw [hg];exact Nat.ne_of_gt (blk_lt (blkP b0)):d8≠b1)) ?_;clear b0 HB;intro b0 HB b4 GW439 i5 k0 k2;clear hb hbox hg))
  refine ap3 (blk_drew b0.out) (blk_drew b4.out) (below_drew1 HB.out) ?_
  clear b0 b4 HB
  intro b0 b4 HB
  refine start_ (n:=8) (S:=fun w'=>w'.cell? ⟨b1,0,none⟩=some (.int .i64 b8)∧w'.cell? ⟨b1,1,none⟩=some (.int .i64 d1)∧w'.cell? ⟨b1,2,none⟩=some (.int .i64 d2)∧w'.cell? ⟨b1,3,none⟩=some (.int .i64 d3)∧w'.cell? ⟨b1,4,none⟩=some (.int .i64 d4)∧w'.cell? ⟨b1,5,none⟩=some (.slice f5 b9.length f6)∧w'.cell? ⟨b1,6,none⟩=some (.slice f7 c0.length f8)∧w'.cell? ⟨b1,7,none⟩=some (.string d5)∧w'.cell? ⟨b1,8,none⟩=some (.slice f9 c1.length g0)∧w'.cell? ⟨b1,9,none⟩=some (.slice e5 b5.length e6)∧w'.cell? ⟨b1,10,none⟩=some (.slice g1 d0.length g2)∧w'.cell? ⟨b1,11,none⟩=some (.slice f3 b6.length f4)) (ds:=[]) #[false,false,false,false,false,false,false,false] (by kernel_rfl) rfl rfl ⟨(blk_cell b0.out 0).trans rfl,(blk_cell b0.out 1).trans rfl,(blk_cell b0.out 2).trans rfl,(blk_cell b0.out 3).trans rfl,(blk_cell b0.out 4).trans rfl,(blk_cell b0.out 5).trans rfl,(blk_cell b0.out 6).trans rfl,(blk_cell b0.out 7).trans rfl,(blk_cell b0.out 8).trans rfl,(blk_cell b0.out 9).trans rfl,(blk_cell b0.out 10).trans rfl,(blk_cell b0.out 11).trans rfl⟩ (fun hHeld=>?_);refine with_tabW nomination_next.tab1 nomination_next.bits1 (fun HT_ HW_=>?_)
  generalize w8.drew=w9 at b0 b4 HB hHeld ⊢
  refine pure_ (i:=0) (N:=some 11) #[true,false,false,false,false,false,false,false] rfl rfl (any_of HT_.out (by kernel_rfl)) (fun _ _ _ h=>h) (Or.inl ⟨by rfl,tz4⟩) tz1 ?_
  refine take_ (i:=1) (N:=some 12) #[true,true,false,false,false,false,false,false] rfl rfl (take_ofW HT_.out HW_.out (by kernel_rfl)) (fun _ _ _ h=>h) (Or.inl ⟨by rfl,tz5⟩) hHeld tz1 ?_
  refine take_ (i:=3) (N:=some 14) #[true,true,false,true,false,false,false,false] rfl rfl (take_ofW HT_.out HW_.out (by kernel_rfl)) (fun _ _ _ h=>h) (Or.inl ⟨by rfl,tz5⟩) hHeld tz1 ?_
  refine one_ (i:=2) (N:=some 13) #[true,true,true,true,false,false,false,false] rfl rfl (one_of HT_.out (by kernel_rfl)) (by decide) (fun K hK=>?_)
  refine goes_ Try.func27 (by kernel_rfl) rfl #[.slice f3 b6.length f4] (by rfl) rfl rfl tz0 ?_
  with_reducible refine (api_Nomination.calls (fun k_=>k_ < w.heap.size) _ _ b6 e4 _ ?side1 A3.out).mono ?_
  (case side1=>exact Kd.V_mk p2.out (Kd.F_below (Kd.C_F k48_heap p1.out) (belowP HB)))
  rintro e t5 ⟨e7,rfl,f0,hb⟩
  refine ⟨_,rfl,?_⟩
  refine ap4 (Kd.N_lower (Kd.N_mono (ok':=fun k_=>k_≠b1∧k_≠d8) f0 (fun k_ hk_=>⟨Or.elim hk_ (fun hs_=>fun e_=>Nat.not_le.2 hs_ (by rw [e_];exact GW438.out)) (fun hn_=>(Kd.freshB (blkP b0) k_ hn_)),Or.elim hk_ (fun hs_=>fun e_=>Nat.not_le.2 hs_ (by rw [e_];exact GW439.out)) (fun hn_=>(Kd.freshB (blkP b4) k_ hn_))⟩)) (below_size (belowP HB))) (blk_below (blkP b0) hb) (blk_below (blkP b4) hb) (below_step (belowP HB) hb) ?_
  clear b0 b4 HB
  intro d9 b0 b4 HB
  (try clear hb)
  (try clear hb2)
  (try clear hk)
  (try clear hi)
  (try clear f0)
  refine hK.out _ _ ⟨(blk_cell b0.out 0).trans rfl,(blk_cell b0.out 1).trans rfl,(blk_cell b0.out 2).trans rfl,(blk_cell b0.out 3).trans rfl,(blk_cell b0.out 4).trans rfl,(blk_cell b0.out 5).trans rfl,(blk_cell b0.out 6).trans rfl,(blk_cell b0.out 7).trans rfl,(blk_cell b0.out 8).trans rfl,(blk_cell b0.out 9).trans rfl,(blk_cell b0.out 10).trans rfl,(blk_cell b0.out 11).trans rfl⟩ (fun hHeld=>?_)
  clear hK K
  refine norm_ (a':=?_) ?_ ?_
  rotate_left
  ·show Act.put _ (some 13) _=_
   simp only [Act.put,List.setIfInBounds_toArray,List.set_cons_zero,List.set_cons_succ,i64_w,i32_w]
   rfl
  refine one_ (i:=4) (N:=some 15) #[true,true,true,true,true,false,false,false] rfl rfl (one_of HT_.out (by kernel_rfl)) (by decide) (fun K hK=>?_)
  refine goes_ Try.func28 (by kernel_rfl) rfl #[.agg #[.int .i64 b8,.int .i64 d1,.int .i64 d2,.int .i64 d3,.int .i64 d4,.slice f5 b9.length f6,.slice f7 c0.length f8,.string d5,.slice f9 c1.length g0,.slice e5 b5.length e6,.slice g1 d0.length g2,.slice f3 b6.length f4]] (by rfl) rfl rfl tz0 ?_
  with_reducible refine (nomination_say.calls b8 d1 d2 d3 d4 (fun k_=>k_ < w.heap.size) _ _ b9 (fun k_=>k_ < w.heap.size) _ _ c0 d5 (fun k_=>k_ < w.heap.size) _ _ c1 (fun k_=>k_ < w.heap.size) _ _ b5 _ _ d0 _ _ b6 h7 h8 h9 i0 i1 i2 i3 _ ?side1 ?side2 ?side3 ?side4 ?side5 ?side6 ?side7 ?side8 A4.out).mono ?_
  (case side1=>exact Kd.V_mk r3.out (Kd.F_below (Kd.C_F (Kd.heap_int .i64) r0.out) (belowP HB)))
  (case side2=>exact Kd.V_mk r5.out (Kd.F_below (Kd.C_F k30_heap r4.out) (belowP HB)))
  (case side3=>exact Kd.V_mk r7.out (Kd.F_below (Kd.C_F Kd.heap_string r6.out) (belowP HB)))
  (case side4=>exact Kd.V_mk j5.out (Kd.F_below (Kd.C_F Kd.heap_string j4.out) (belowP HB)))
  (case side5=>exact Kd.C_q (Kd.C_below r8.out HB.out))
  (case side6=>exact r9.out)
  (case side7=>exact Kd.C_q (Kd.C_below p1.out HB.out))
  (case side8=>exact p2.out)
  rintro e t6 ⟨t7,t8,t9,u0,rfl,f0,p7,p8,p9,hb⟩
  refine ⟨_,rfl,?_⟩
  refine ap8 (Kd.N_below (by (with_reducible repeat (first|apply Kd.N_alloc|apply Kd.N_drewN|apply Kd.N_drew));exact d9.out) hb) (Kd.V_lower (Kd.V_mono (ok':=fun k_=>some k_≠(e7:Value).ownBlock∧k_≠b1∧k_≠d8) f0 (fun k_ hk_=>⟨Or.elim hk_ (fun hs_=>Or.elim hs_ (fun hs_=>fun e_=>Nat.not_le.2 hs_ (Kd.N_base d9.out k_ e_.symm)) (fun hs_=>Or.elim hs_ (fun hs_=>fun e_=>Nat.not_le.2 hs_ (Kd.N_base d9.out k_ e_.symm)) (fun hs_=>Or.elim hs_ (fun hs_=>fun e_=>Nat.not_le.2 hs_ (Kd.N_base d9.out k_ e_.symm)) (fun hs_=>fun e_=>Nat.not_le.2 hs_ (Kd.N_base d9.out k_ e_.symm))))) (fun hn_=>(Kd.fresh' (Kd.N_lt (by (with_reducible repeat (first|apply Kd.N_alloc|apply Kd.N_drewN|apply Kd.N_drew));exact d9.out)) k_ hn_)),Or.elim hk_ (fun hs_=>Or.elim hs_ (fun hs_=>fun e_=>Nat.not_le.2 hs_ (by rw [e_];exact GW438.out)) (fun hs_=>Or.elim hs_ (fun hs_=>fun e_=>Nat.not_le.2 hs_ (by rw [e_];exact GW438.out)) (fun hs_=>Or.elim hs_ (fun hs_=>fun e_=>Nat.not_le.2 hs_ (by rw [e_];exact GW438.out)) (fun hs_=>fun e_=>Nat.not_le.2 hs_ (by rw [e_];exact GW438.out))))) (fun hn_=>(Kd.freshB (blkP b0) k_ hn_)),Or.elim hk_ (fun hs_=>Or.elim hs_ (fun hs_=>fun e_=>Nat.not_le.2 hs_ (by rw [e_];exact GW439.out)) (fun hs_=>Or.elim hs_ (fun hs_=>fun e_=>Nat.not_le.2 hs_ (by rw [e_];exact GW439.out)) (fun hs_=>Or.elim hs_ (fun hs_=>fun e_=>Nat.not_le.2 hs_ (by rw [e_];exact GW439.out)) (fun hs_=>fun e_=>Nat.not_le.2 hs_ (by rw [e_];exact GW439.out))))) (fun hn_=>(Kd.freshB (blkP b4) k_ hn_))⟩)) (below_size (belowP HB))) (Kd.V_lower (Kd.V_mono (ok':=fun k_=>some k_≠(e7:Value).ownBlock∧k_≠b1∧k_≠d8) p7 (fun k_ hk_=>⟨Or.elim hk_ (fun hs_=>Or.elim hs_ (fun hs_=>fun e_=>Nat.not_le.2 hs_ (Kd.N_base d9.out k_ e_.symm)) (fun hs_=>Or.elim hs_ (fun hs_=>fun e_=>Nat.not_le.2 hs_ (Kd.N_base d9.out k_ e_.symm)) (fun hs_=>Or.elim hs_ (fun hs_=>fun e_=>Nat.not_le.2 hs_ (Kd.N_base d9.out k_ e_.symm)) (fun hs_=>fun e_=>Nat.not_le.2 hs_ (Kd.N_base d9.out k_ e_.symm))))) (fun hn_=>(Kd.fresh' (Kd.N_lt (by (with_reducible repeat (first|apply Kd.N_alloc|apply Kd.N_drewN|apply Kd.N_drew));exact d9.out)) k_ hn_)),Or.elim hk_ (fun hs_=>Or.elim hs_ (fun hs_=>fun e_=>Nat.not_le.2 hs_ (by rw [e_];exact GW438.out)) (fun hs_=>Or.elim hs_ (fun hs_=>fun e_=>Nat.not_le.2 hs_ (by rw [e_];exact GW438.out)) (fun hs_=>Or.elim hs_ (fun hs_=>fun e_=>Nat.not_le.2 hs_ (by rw [e_];exact GW438.out)) (fun hs_=>fun e_=>Nat.not_le.2 hs_ (by rw [e_];exact GW438.out))))) (fun hn_=>(Kd.freshB (blkP b0) k_ hn_)),Or.elim hk_ (fun hs_=>Or.elim hs_ (fun hs_=>fun e_=>Nat.not_le.2 hs_ (by rw [e_];exact GW439.out)) (fun hs_=>Or.elim hs_ (fun hs_=>fun e_=>Nat.not_le.2 hs_ (by rw [e_];exact GW439.out)) (fun hs_=>Or.elim hs_ (fun hs_=>fun e_=>Nat.not_le.2 hs_ (by rw [e_];exact GW439.out)) (fun hs_=>fun e_=>Nat.not_le.2 hs_ (by rw [e_];exact GW439.out))))) (fun hn_=>(Kd.freshB (blkP b4) k_ hn_))⟩)) (below_size (belowP HB))) (Kd.V_lower (Kd.V_mono (ok':=fun k_=>some k_≠(e7:Value).ownBlock∧k_≠b1∧k_≠d8) p8 (fun k_ hk_=>⟨Or.elim hk_ (fun hs_=>Or.elim hs_ (fun hs_=>fun e_=>Nat.not_le.2 hs_ (Kd.N_base d9.out k_ e_.symm)) (fun hs_=>Or.elim hs_ (fun hs_=>fun e_=>Nat.not_le.2 hs_ (Kd.N_base d9.out k_ e_.symm)) (fun hs_=>Or.elim hs_ (fun hs_=>fun e_=>Nat.not_le.2 hs_ (Kd.N_base d9.out k_ e_.symm)) (fun hs_=>fun e_=>Nat.not_le.2 hs_ (Kd.N_base d9.out k_ e_.symm))))) (fun hn_=>(Kd.fresh' (Kd.N_lt (by (with_reducible repeat (first|apply Kd.N_alloc|apply Kd.N_drewN|apply Kd.N_drew));exact d9.out)) k_ hn_)),Or.elim hk_ (fun hs_=>Or.elim hs_ (fun hs_=>fun e_=>Nat.not_le.2 hs_ (by rw [e_];exact GW438.out)) (fun hs_=>Or.elim hs_ (fun hs_=>fun e_=>Nat.not_le.2 hs_ (by rw [e_];exact GW438.out)) (fun hs_=>Or.elim hs_ (fun hs_=>fun e_=>Nat.not_le.2 hs_ (by rw [e_];exact GW438.out)) (fun hs_=>fun e_=>Nat.not_le.2 hs_ (by rw [e_];exact GW438.out))))) (fun hn_=>(Kd.freshB (blkP b0) k_ hn_)),Or.elim hk_ (fun hs_=>Or.elim hs_ (fun hs_=>fun e_=>Nat.not_le.2 hs_ (by rw [e_];exact GW439.out)) (fun hs_=>Or.elim hs_ (fun hs_=>fun e_=>Nat.not_le.2 hs_ (by rw [e_];exact GW439.out)) (fun hs_=>Or.elim hs_ (fun hs_=>fun e_=>Nat.not_le.2 hs_ (by rw [e_];exact GW439.out)) (fun hs_=>fun e_=>Nat.not_le.2 hs_ (by rw [e_];exact GW439.out))))) (fun hn_=>(Kd.freshB (blkP b4) k_ hn_))⟩)) (below_size (belowP HB))) (Kd.V_lower (Kd.V_mono (ok':=fun k_=>some k_≠(e7:Value).ownBlock∧k_≠b1∧k_≠d8) p9 (fun k_ hk_=>⟨Or.elim hk_ (fun hs_=>Or.elim hs_ (fun hs_=>fun e_=>Nat.not_le.2 hs_ (Kd.N_base d9.out k_ e_.symm)) (fun hs_=>Or.elim hs_ (fun hs_=>fun e_=>Nat.not_le.2 hs_ (Kd.N_base d9.out k_ e_.symm)) (fun hs_=>Or.elim hs_ (fun hs_=>fun e_=>Nat.not_le.2 hs_ (Kd.N_base d9.out k_ e_.symm)) (fun hs_=>fun e_=>Nat.not_le.2 hs_ (Kd.N_base d9.out k_ e_.symm))))) (fun hn_=>(Kd.fresh' (Kd.N_lt (by (with_reducible repeat (first|apply Kd.N_alloc|apply Kd.N_drewN|apply Kd.N_drew));exact d9.out)) k_ hn_)),Or.elim hk_ (fun hs_=>Or.elim hs_ (fun hs_=>fun e_=>Nat.not_le.2 hs_ (by rw [e_];exact GW438.out)) (fun hs_=>Or.elim hs_ (fun hs_=>fun e_=>Nat.not_le.2 hs_ (by rw [e_];exact GW438.out)) (fun hs_=>Or.elim hs_ (fun hs_=>fun e_=>Nat.not_le.2 hs_ (by rw [e_];exact GW438.out)) (fun hs_=>fun e_=>Nat.not_le.2 hs_ (by rw [e_];exact GW438.out))))) (fun hn_=>(Kd.freshB (blkP b0) k_ hn_)),Or.elim hk_ (fun hs_=>Or.elim hs_ (fun hs_=>fun e_=>Nat.not_le.2 hs_ (by rw [e_];exact GW439.out)) (fun hs_=>Or.elim hs_ (fun hs_=>fun e_=>Nat.not_le.2 hs_ (by rw [e_];exact GW439.out)) (fun hs_=>Or.elim hs_ (fun hs_=>fun e_=>Nat.not_le.2 hs_ (by rw [e_];exact GW439.out)) (fun hs_=>fun e_=>Nat.not_le.2 hs_ (by rw [e_];exact GW439.out))))) (fun hn_=>(Kd.freshB (blkP b4) k_ hn_))⟩)) (below_size (belowP HB))) (blk_below (blkP b0) hb) (blk_below (blkP b4) hb) (below_step (belowP HB) hb) ?_
  clear d9 b0 b4 HB
  intro d9 g4 g5 g6 g7 b0 b4 HB
  (try clear hb)
  (try clear hb2)
  (try clear hk)
  (try clear hi)
  (try clear f0)
  (try clear p7)
  (try clear p8)
  (try clear p9)
  obtain ⟨s1,s2,q0⟩:=Kd.V_slice g4.out
  (first|subst q0|(injection q0 with f1_ f2_ f3_;have f4_:=f1_.symm;have f5_:=f3_.symm;clear f1_ f2_ f3_;subst f4_;subst f5_))
  obtain ⟨s3,s4,q1⟩:=Kd.V_slice g5.out
  (first|subst q1|(injection q1 with f1_ f2_ f3_;have f4_:=f1_.symm;have f5_:=f3_.symm;clear f1_ f2_ f3_;subst f4_;subst f5_))
  obtain ⟨s5,s6,q2⟩:=Kd.V_slice g6.out
  (first|subst q2|(injection q2 with f1_ f2_ f3_;have f4_:=f1_.symm;have f5_:=f3_.symm;clear f1_ f2_ f3_;subst f4_;subst f5_))
  obtain ⟨s7,s8,q3⟩:=Kd.V_slice g7.out
  (first|subst q3|(injection q3 with f1_ f2_ f3_;have f4_:=f1_.symm;have f5_:=f3_.symm;clear f1_ f2_ f3_;subst f4_;subst f5_))
  refine hK.out _ _ ⟨(blk_cell b0.out 0).trans rfl,(blk_cell b0.out 1).trans rfl,(blk_cell b0.out 2).trans rfl,(blk_cell b0.out 3).trans rfl,(blk_cell b0.out 4).trans rfl,(blk_cell b0.out 5).trans rfl,(blk_cell b0.out 6).trans rfl,(blk_cell b0.out 7).trans rfl,(blk_cell b0.out 8).trans rfl,(blk_cell b0.out 9).trans rfl,(blk_cell b0.out 10).trans rfl,(blk_cell b0.out 11).trans rfl⟩ (fun hHeld=>?_)
  clear hK K
  refine norm_ (a':=?_) ?_ ?_
  rotate_left
  ·show Act.put _ (some 15) _=_
   simp only [Act.put,List.setIfInBounds_toArray,List.set_cons_zero,List.set_cons_succ,i64_w,i32_w]
   rfl
  refine one_ (i:=5) (N:=some 16) #[true,true,true,true,true,true,false,false] rfl rfl (one_of HT_.out (by kernel_rfl)) (by decide) (fun K hK=>?_)
  refine value_ (w1:=?_) (v:=?_) (by rfl) rfl ?_ ?_
  rotate_left 2
  ·go_simp
   constructor
   ·rfl
   ·rfl
  refine hK.out _ _ ⟨(blk_cell (blk_alloc b0.out _) 0).trans rfl,(blk_cell (blk_alloc b0.out _) 1).trans rfl,(blk_cell (blk_alloc b0.out _) 2).trans rfl,(blk_cell (blk_alloc b0.out _) 3).trans rfl,(blk_cell (blk_alloc b0.out _) 4).trans rfl,(blk_cell (blk_alloc b0.out _) 5).trans rfl,(blk_cell (blk_alloc b0.out _) 6).trans rfl,(blk_cell (blk_alloc b0.out _) 7).trans rfl,(blk_cell (blk_alloc b0.out _) 8).trans rfl,(blk_cell (blk_alloc b0.out _) 9).trans rfl,(blk_cell (blk_alloc b0.out _) 10).trans rfl,(blk_cell (blk_alloc b0.out _) 11).trans rfl⟩ (fun hHeld=>?_)
  clear hK K
  refine norm_ (a':=?_) ?_ ?_
  rotate_left
  ·show Act.put _ (some 16) _=_
   simp only [Act.put,List.setIfInBounds_toArray,List.set_cons_zero,List.set_cons_succ,i64_w,i32_w]
   rfl
  refine one_ (i:=6) (N:=some 17) #[true,true,true,true,true,true,true,false] rfl rfl (one_of HT_.out (by kernel_rfl)) (by decide) (fun K hK=>?_)
  refine Kd.N_append_step k48 (w0:=w) w.heap.size (by rfl) (.tmp 13) (.tmp 16) 31 48 (.agg #[(.int .i64 0),(.int .i64 0),(.int .i64 0),(.slice none 0 0),(.slice none 0 0),(.slice none 0 0),(.slice none 0 0)]) 120 rfl Try.underlying31 info48 rfl (by decide) (by omega) e7 e4 (⟨h7,h8,(⟨h9,i0,i1⟩:S30),i2,i3⟩:S48) [.int .i64 h7,.int .i64 h8,.int .i64 h9,.slice s1 i0.length s2,.slice s3 i1.length s4,.slice s5 i2.length s6,.slice s7 i3.length s8] (fun k_=>k_≠b1∧k_≠d8) (fun k_=>((fun k_=>k_≠b1∧k_≠d8)) k_∧some k_≠(e7:Value).ownBlock) rfl rfl ?aP (fun _ hk=>hk) ?aF ?aO ?aB ?aS ?aL ?_
  (case aP=>exact (k48_mkF _ _ (⟨h7,h8,(⟨h9,i0,i1⟩:S30),i2,i3⟩:S48) (Kd.V_reads' (Kd.V_mono (ok':=(fun k_=>((fun k_=>k_≠b1∧k_≠d8)) k_∧some k_≠(e7:Value).ownBlock)) (g4.out) (fun k_ hk=>⟨⟨hk.2.1,hk.2.2⟩,hk.1⟩))).2.1 (Kd.V_F (Kd.V_mono (ok':=(fun k_=>((fun k_=>k_≠b1∧k_≠d8)) k_∧some k_≠(e7:Value).ownBlock)) (g4.out) (fun k_ hk=>⟨⟨hk.2.1,hk.2.2⟩,hk.1⟩))) (Kd.V_reads' (Kd.V_mono (ok':=(fun k_=>((fun k_=>k_≠b1∧k_≠d8)) k_∧some k_≠(e7:Value).ownBlock)) (g5.out) (fun k_ hk=>⟨⟨hk.2.1,hk.2.2⟩,hk.1⟩))).2.1 (Kd.V_F (Kd.V_mono (ok':=(fun k_=>((fun k_=>k_≠b1∧k_≠d8)) k_∧some k_≠(e7:Value).ownBlock)) (g5.out) (fun k_ hk=>⟨⟨hk.2.1,hk.2.2⟩,hk.1⟩))) (Kd.V_reads' (Kd.V_mono (ok':=(fun k_=>((fun k_=>k_≠b1∧k_≠d8)) k_∧some k_≠(e7:Value).ownBlock)) (g6.out) (fun k_ hk=>⟨⟨hk.2.1,hk.2.2⟩,hk.1⟩))).2.1 (Kd.V_F (Kd.V_mono (ok':=(fun k_=>((fun k_=>k_≠b1∧k_≠d8)) k_∧some k_≠(e7:Value).ownBlock)) (g6.out) (fun k_ hk=>⟨⟨hk.2.1,hk.2.2⟩,hk.1⟩))) (Kd.V_reads' (Kd.V_mono (ok':=(fun k_=>((fun k_=>k_≠b1∧k_≠d8)) k_∧some k_≠(e7:Value).ownBlock)) (g7.out) (fun k_ hk=>⟨⟨hk.2.1,hk.2.2⟩,hk.1⟩))).2.1 (Kd.V_F (Kd.V_mono (ok':=(fun k_=>((fun k_=>k_≠b1∧k_≠d8)) k_∧some k_≠(e7:Value).ownBlock)) (g7.out) (fun k_ hk=>⟨⟨hk.2.1,hk.2.2⟩,hk.1⟩)))))
  (case aB=>exact (belowP HB))
  (case aF=>exact (fun k_ hk=>⟨Kd.freshB (blkP b0) k_ hk,Kd.freshB (blkP b4) k_ hk⟩))
  (case aO=>exact (by (with_reducible repeat (first|apply Kd.N_alloc|apply Kd.N_drewN|apply Kd.N_drew));exact d9.out))
  (case aS=>exact (below_size (belowP HB)))
  (case aL=>have:=LMc5.out;omega)
  intro u1 u2 ho hb hg hat
  rw [← s0.out] at ho
  refine ap8 (blk_grown (blkP b0) hg (Kd.N_ne d9.out b0.out (by decide))) (blk_grown (blkP b4) hg (Kd.N_ne d9.out b4.out (by decide))) (Kd.V_afterv (ok:=(fun k_=>k_≠b1∧k_≠d8)) (by (with_reducible repeat (first|apply Kd.V_alloc|apply Kd.V_drewN|apply Kd.V_drew));exact Kd.V_mono g4.out (fun _ hk=>⟨⟨hk.2.1,hk.2.2⟩,hk.1⟩)) hg hat) (Kd.V_afterv (ok:=(fun k_=>k_≠b1∧k_≠d8)) (by (with_reducible repeat (first|apply Kd.V_alloc|apply Kd.V_drewN|apply Kd.V_drew));exact Kd.V_mono g5.out (fun _ hk=>⟨⟨hk.2.1,hk.2.2⟩,hk.1⟩)) hg hat) (Kd.V_afterv (ok:=(fun k_=>k_≠b1∧k_≠d8)) (by (with_reducible repeat (first|apply Kd.V_alloc|apply Kd.V_drewN|apply Kd.V_drew));exact Kd.V_mono g6.out (fun _ hk=>⟨⟨hk.2.1,hk.2.2⟩,hk.1⟩)) hg hat) (Kd.V_afterv (ok:=(fun k_=>k_≠b1∧k_≠d8)) (by (with_reducible repeat (first|apply Kd.V_alloc|apply Kd.V_drewN|apply Kd.V_drew));exact Kd.V_mono g7.out (fun _ hk=>⟨⟨hk.2.1,hk.2.2⟩,hk.1⟩)) hg hat) (hb) (ho) ?_
  clear b0 b4 g4 g5 g6 g7 HB d9
  intro b0 b4 g4 g5 g6 g7 HB h2
  clear ho hb hg hat
  refine hK.out _ _ ⟨(blk_cell b0.out 0).trans rfl,(blk_cell b0.out 1).trans rfl,(blk_cell b0.out 2).trans rfl,(blk_cell b0.out 3).trans rfl,(blk_cell b0.out 4).trans rfl,(blk_cell b0.out 5).trans rfl,(blk_cell b0.out 6).trans rfl,(blk_cell b0.out 7).trans rfl,(blk_cell b0.out 8).trans rfl,(blk_cell b0.out 9).trans rfl,(blk_cell b0.out 10).trans rfl,(blk_cell b0.out 11).trans rfl⟩ (fun hHeld=>?_)
  clear hK K
  refine norm_ (a':=?_) ?_ ?_
  rotate_left
  ·show Act.put _ (some 17) _=_
   simp only [Act.put,List.setIfInBounds_toArray,List.set_cons_zero,List.set_cons_succ,i64_w,i32_w]
   rfl
  refine pure_ (i:=7) (N:=some 6) #[true,true,true,true,true,true,true,true] rfl rfl (any_of HT_.out (by kernel_rfl)) (fun _ _ _ h=>h) (Or.inl ⟨by rfl,tz4⟩) tz1 ?_
  refine done_ (done_of HT_.out (by kernel_rfl)) ?_
  obtain ⟨i6,i7,s9⟩:=Kd.N_slice h2.out
  subst s9
  try go_wp2_with (first|((with_reducible refine gate_callee (f:=40) rfl ?_);refine goesL_ (some 19) rfl rfl Try.func40 (by kernel_rfl) rfl #[.slice i6 b7.length i7] rfl tz0 ?_;(with_reducible refine (nomination_all.calls k _ _ b7 b2 _ ?side1 ?side2 A6.out).mono ?_);(case side1=>exact Kd.C_q ((Kd.N_reads' h2.out).2.2));(case side2=>exact (Kd.N_reads' h2.out).2.1);rintro e u3 ⟨u4,rfl,f0,hb⟩;refine ⟨_,rfl,?_⟩;refine ap9 (Kd.V_elder' (by (with_reducible repeat (first|apply Kd.V_alloc|apply Kd.V_drewN|apply Kd.V_drew));exact g4.out) (Kd.R_base f0) hb) (Kd.V_elder' (by (with_reducible repeat (first|apply Kd.V_alloc|apply Kd.V_drewN|apply Kd.V_drew));exact g5.out) (Kd.R_base f0) hb) (Kd.V_elder' (by (with_reducible repeat (first|apply Kd.V_alloc|apply Kd.V_drewN|apply Kd.V_drew));exact g6.out) (Kd.R_base f0) hb) (Kd.V_elder' (by (with_reducible repeat (first|apply Kd.V_alloc|apply Kd.V_drewN|apply Kd.V_drew));exact g7.out) (Kd.R_base f0) hb) (Kd.N_elder' (by (with_reducible repeat (first|apply Kd.N_alloc|apply Kd.N_drewN|apply Kd.N_drew));exact h2.out) (Kd.R_base f0) hb) (Kd.R_lower f0 (below_size (belowP HB))) (blk_below (blkP b0) hb) (blk_below (blkP b4) hb) (below_step (belowP HB) hb) ?_;clear g4 g5 g6 g7 h2 b0 b4 HB;intro g4 g5 g6 g7 h2 q4 b0 b4 HB;obtain ⟨q5,q6,t0⟩:=Kd.R_slice q4.out;subst t0))
  go_loopg [21] k (fun kq t1 w'=>∃ (b3:Int),t1 = .int .i64 b3∧Aside0 (nomination_next.l0 kq b7 b2 (b2.length:Int) b3 b8 d1 d2 d3 d4 b9 c0 d5 c1 b5 d0 b6 d7=some (r1,r2))∧Aside0 (kq≤k)∧Aside0 (Kd.N k48 48 w' w.heap.size (fun k_=>some k_≠((.slice q5 b2.length q6):Value).ownBlock∧k_≠b1∧k_≠d8) (.slice i6 b7.length i7) b7)∧Aside0 (Kd.R Kd.string 9 w' w.heap.size (fun _=>True) (.slice q5 b2.length q6) b2)∧Aside0 (w'.heap[b1]? = some (.cells #[.int .i64 b8,.int .i64 d1,.int .i64 d2,.int .i64 d3,.int .i64 d4,(.slice f5 b9.length f6),(.slice f7 c0.length f8),.string d5,(.slice f9 c1.length g0),(.slice e5 b5.length e6),(.slice g1 d0.length g2),(.slice f3 b6.length f4)] 33 (0,0)))∧Aside0 (w'.heap[d8]? = some (.cells #[(.slice h5 d7.length h6)] 53 (0,0)))∧Aside0 (Below w.heap.size w w'))
  case atStart=>exact ⟨(0),tz3,H',⟨Nat.le_refl _⟩,⟨by (with_reducible repeat (first|apply Kd.N_alloc|apply Kd.N_drewN|apply Kd.N_drew));exact Kd.N_mono h2.out (fun _ hk=>⟨hk.2,⟨hk.1.1,hk.1.2⟩⟩)⟩,⟨by (with_reducible repeat (first|apply Kd.R_alloc|apply Kd.R_drewN|apply Kd.R_drew));exact q4.out⟩,⟨by refine blkQ ?_;exact b0.out⟩,⟨by refine blkQ ?_;exact b4.out⟩,⟨by repeat (first|(with_reducible first|exact HB.out|apply below_alloc|apply pw_below_drewN|apply below_drew1|refine below_set ?_ i4.out|refine below_set ?_ i5.out)|exact HB.out)⟩⟩
  case round=>
   clear H'
   try clear c5
   try clear b0
   try clear b4
   try clear HB
   obtain ⟨b3,rfl,HA,i8,d6,e0,b0,b4,HB⟩:=hrel
   cases gk with
   | zero=>exact absurd HA.out (by simp [nomination_next.l0])
   | succ k1=>
    have H:=HA.out
    clear HA
    simp only [nomination_next.l0] at H
    by_cases i9:b3 < (b2.length:Int)
    ·rw [if_pos i9] at H
     have t2:decide (b3 < (b2.length:Int))=true:=decide_eq_true i9
     clear i9
     by_cases k3:0≤b3
     ·rw [if_pos k3] at H
      have u5:decide (0≤b3)=true:=decide_eq_true k3
      clear k3
      by_cases k4:b3 < (b2.length:Int)
      ·rw [if_pos k4] at H
       have u6:decide (b3 < (b2.length:Int))=true:=decide_eq_true k4
       clear k4
       replace H:=Option.bind_eq_some_iff.mp H
       obtain ⟨⟨g9,h0⟩,q7,H⟩:=H
       replace H:((nomination_has.f k1 b5 (rdOf ByteArray.empty b2 b3)).bind fun h4=>(if h4=true then (nomination_next.l0 k1 b7 b2 (b2.length:Int) (wrap64 (b3 + 1)) b8 d1 d2 d3 d4 b9 c0 d5 c1 b5 d0 b6 d7) else (if (b5.length:Int) < 40 then ((federated_Accepts.f k1 d7 b8 g9 h0).bind fun g8=>(if g8=true then (some (rdOf ByteArray.empty b2 b3,true)) else (nomination_next.l0 k1 b7 b2 (b2.length:Int) (wrap64 (b3 + 1)) b8 d1 d2 d3 d4 b9 c0 d5 c1 b5 d0 b6 d7))) else (nomination_next.l0 k1 b7 b2 (b2.length:Int) (wrap64 (b3 + 1)) b8 d1 d2 d3 d4 b9 c0 d5 c1 b5 d0 b6 d7))))=some (r1,r2):=H
       have k5:=Aside0.mk q7
       clear q7
       replace H:=Option.bind_eq_some_iff.mp H
       obtain ⟨h4,q8,H⟩:=H
       replace H:(if h4=true then (nomination_next.l0 k1 b7 b2 (b2.length:Int) (wrap64 (b3 + 1)) b8 d1 d2 d3 d4 b9 c0 d5 c1 b5 d0 b6 d7) else (if (b5.length:Int) < 40 then ((federated_Accepts.f k1 d7 b8 g9 h0).bind fun g8=>(if g8=true then (some (rdOf ByteArray.empty b2 b3,true)) else (nomination_next.l0 k1 b7 b2 (b2.length:Int) (wrap64 (b3 + 1)) b8 d1 d2 d3 d4 b9 c0 d5 c1 b5 d0 b6 d7))) else (nomination_next.l0 k1 b7 b2 (b2.length:Int) (wrap64 (b3 + 1)) b8 d1 d2 d3 d4 b9 c0 d5 c1 b5 d0 b6 d7)))=some (r1,r2):=H
       have k6:=Aside0.mk q8
       clear q8
       by_cases k7:h4=true
       ·subst k7
        rw [if_pos rfl] at H
        have H':=Aside0.mk H
        clear H
        have e2:0≤(b3:Int):=of_decide_eq_true tz2
        have e3:b3 < (b2.length:Int):=of_decide_eq_true tz2
        obtain ⟨n4,h3,n5⟩:=Kd.at_string (Kd.R_reads' e0.out).2.2 b3 e2 e3
        cases h3
        replace e2:=eq_true e2
        replace e3:=eq_true e3
        go_wp2_with (first|((with_reducible refine gate_callee (f:=29) rfl ?_);refine goesL_ (some 28) rfl rfl Try.func29 (by kernel_rfl) rfl #[.slice i6 b7.length i7,.string (rdOf ByteArray.empty b2 b3)] rfl tz0 ?_;(with_reducible refine (nomination_saying.calls k1 _ _ b7 (rdOf ByteArray.empty b2 b3) g9 h0 _ ?side1 ?side2 k5.out).mono ?_);(case side1=>exact Kd.C_q ((Kd.N_reads' d6.out).2.2));(case side2=>exact (Kd.N_reads' d6.out).2.1);rintro e f1 ⟨rfl,hb⟩;refine ⟨_,rfl,?_⟩;refine ap5 (Kd.N_below (by (with_reducible repeat (first|apply Kd.N_alloc|apply Kd.N_drewN|apply Kd.N_drew));exact d6.out) hb) (Kd.R_below (by (with_reducible repeat (first|apply Kd.R_alloc|apply Kd.R_drewN|apply Kd.R_drew));exact e0.out) hb) (blk_below (blkP b0) hb) (blk_below (blkP b4) hb) (below_step (belowP HB) hb) ?_;clear d6 e0 b0 b4 HB;intro d6 e0 b0 b4 HB;have u7:=k0.out;have u9:=k2.out;have v0:f1.cell? ⟨b1,0,none⟩=some (.int .i64 b8):=(blk_cell b0.out 0).trans rfl;have v1:f1.cell? ⟨b1,1,none⟩=some (.int .i64 d1):=(blk_cell b0.out 1).trans rfl;have v2:f1.cell? ⟨b1,2,none⟩=some (.int .i64 d2):=(blk_cell b0.out 2).trans rfl;have v3:f1.cell? ⟨b1,3,none⟩=some (.int .i64 d3):=(blk_cell b0.out 3).trans rfl;have v4:f1.cell? ⟨b1,4,none⟩=some (.int .i64 d4):=(blk_cell b0.out 4).trans rfl;have v5:f1.cell? ⟨b1,5,none⟩=some (.slice f5 b9.length f6):=(blk_cell b0.out 5).trans rfl;have v6:f1.cell? ⟨b1,6,none⟩=some (.slice f7 c0.length f8):=(blk_cell b0.out 6).trans rfl;have v7:f1.cell? ⟨b1,7,none⟩=some (.string d5):=(blk_cell b0.out 7).trans rfl;have v8:f1.cell? ⟨b1,8,none⟩=some (.slice f9 c1.length g0):=(blk_cell b0.out 8).trans rfl;have v9:f1.cell? ⟨b1,9,none⟩=some (.slice e5 b5.length e6):=(blk_cell b0.out 9).trans rfl;have w2:f1.cell? ⟨b1,10,none⟩=some (.slice g1 d0.length g2):=(blk_cell b0.out 10).trans rfl;have w3:f1.cell? ⟨b1,11,none⟩=some (.slice f3 b6.length f4):=(blk_cell b0.out 11).trans rfl;have w4:=blk_frozen b0.out 0;have w5:=blk_frozen b0.out 1;have w6:=blk_frozen b0.out 2;have x0:=blk_frozen b0.out 3;have x1:=blk_frozen b0.out 4;have x2:=blk_frozen b0.out 5;have x3:=blk_frozen b0.out 6;have x4:=blk_frozen b0.out 7;have x5:=blk_frozen b0.out 8;have x7:=blk_frozen b0.out 9;have x8:=blk_frozen b0.out 10;have x9:=blk_frozen b0.out 11)|((with_reducible refine gate_callee (f:=42) rfl ?_);refine goesL_ (some 34) rfl rfl Try.func42 (by kernel_rfl) rfl #[.slice e5 b5.length e6,.string (rdOf ByteArray.empty b2 b3)] rfl tz0 ?_;(with_reducible refine (nomination_has.calls k1 _ _ b5 (rdOf ByteArray.empty b2 b3) true _ ?side1 ?side2 k6.out).mono ?_);(case side1=>exact Kd.C_q (Kd.C_below j4.out HB.out));(case side2=>exact j5.out);rintro e w' ⟨rfl,⟨nd,rfl⟩⟩;refine ⟨_,rfl,?_⟩))
        go_roundg k1
        case measure=>have:=i8.out;omega
        case rel=>exact ⟨(wrap64 (b3 + 1)),tz3,H',⟨by have:=i8.out;omega⟩,⟨by (with_reducible repeat (first|apply Kd.N_alloc|apply Kd.N_drewN|apply Kd.N_drew));exact d6.out⟩,⟨by (with_reducible repeat (first|apply Kd.R_alloc|apply Kd.R_drewN|apply Kd.R_drew));exact e0.out⟩,⟨by refine blkQ ?_;exact b0.out⟩,⟨by refine blkQ ?_;exact b4.out⟩,⟨by repeat (first|(with_reducible first|exact HB.out|apply below_alloc|apply pw_below_drewN|apply below_drew1|refine below_set ?_ i4.out|refine below_set ?_ i5.out)|exact HB.out)⟩⟩
       ·replace k7:=Bool.eq_false_iff.mpr k7
        subst k7
        rw [if_neg (show ¬ (false=true) by decide)] at H
        by_cases j2:(b5.length:Int) < 40
        ·rw [if_pos j2] at H
         have t3:decide ((b5.length:Int) < 40)=true:=decide_eq_true j2
         have t4:decide (b5.length < 40)=true:=decide_eq_true (by omega)
         clear j2
         replace H:=Option.bind_eq_some_iff.mp H
         obtain ⟨g8,q9,H⟩:=H
         replace H:(if g8=true then (some (rdOf ByteArray.empty b2 b3,true)) else (nomination_next.l0 k1 b7 b2 (b2.length:Int) (wrap64 (b3 + 1)) b8 d1 d2 d3 d4 b9 c0 d5 c1 b5 d0 b6 d7))=some (r1,r2):=H
         have j6:=Aside0.mk q9
         clear q9
         by_cases k8:g8=true
         ·subst k8
          rw [if_pos rfl] at H
          simp only [Option.some.injEq,Prod.mk.injEq] at H
          obtain ⟨rfl,rfl⟩:=H
          have e2:0≤(b3:Int):=of_decide_eq_true tz2
          have e3:b3 < (b2.length:Int):=of_decide_eq_true tz2
          obtain ⟨n4,h3,n5⟩:=Kd.at_string (Kd.R_reads' e0.out).2.2 b3 e2 e3
          cases h3
          replace e2:=eq_true e2
          replace e3:=eq_true e3
          go_wp2_with (first|((with_reducible refine gate_callee (f:=29) rfl ?_);refine goesL_ (some 28) rfl rfl Try.func29 (by kernel_rfl) rfl #[.slice i6 b7.length i7,.string (rdOf ByteArray.empty b2 b3)] rfl tz0 ?_;(with_reducible refine (nomination_saying.calls k1 _ _ b7 (rdOf ByteArray.empty b2 b3) g9 h0 _ ?side1 ?side2 k5.out).mono ?_);(case side1=>exact Kd.C_q ((Kd.N_reads' d6.out).2.2));(case side2=>exact (Kd.N_reads' d6.out).2.1);rintro e e8 ⟨rfl,hb⟩;refine ⟨_,rfl,?_⟩;refine ap5 (Kd.N_below (by (with_reducible repeat (first|apply Kd.N_alloc|apply Kd.N_drewN|apply Kd.N_drew));exact d6.out) hb) (Kd.R_below (by (with_reducible repeat (first|apply Kd.R_alloc|apply Kd.R_drewN|apply Kd.R_drew));exact e0.out) hb) (blk_below (blkP b0) hb) (blk_below (blkP b4) hb) (below_step (belowP HB) hb) ?_;clear d6 e0 b0 b4 HB;intro d6 e0 b0 b4 HB;have z0:=k0.out;have z1:=k2.out;have z2:e8.cell? ⟨b1,0,none⟩=some (.int .i64 b8):=(blk_cell b0.out 0).trans rfl;have z3:e8.cell? ⟨b1,1,none⟩=some (.int .i64 d1):=(blk_cell b0.out 1).trans rfl;have z4:e8.cell? ⟨b1,2,none⟩=some (.int .i64 d2):=(blk_cell b0.out 2).trans rfl;have z5:e8.cell? ⟨b1,3,none⟩=some (.int .i64 d3):=(blk_cell b0.out 3).trans rfl;have z6:e8.cell? ⟨b1,4,none⟩=some (.int .i64 d4):=(blk_cell b0.out 4).trans rfl;have z7:e8.cell? ⟨b1,5,none⟩=some (.slice f5 b9.length f6):=(blk_cell b0.out 5).trans rfl;have z8:e8.cell? ⟨b1,6,none⟩=some (.slice f7 c0.length f8):=(blk_cell b0.out 6).trans rfl;have z9:e8.cell? ⟨b1,7,none⟩=some (.string d5):=(blk_cell b0.out 7).trans rfl;have A0:e8.cell? ⟨b1,8,none⟩=some (.slice f9 c1.length g0):=(blk_cell b0.out 8).trans rfl;have A1:e8.cell? ⟨b1,9,none⟩=some (.slice e5 b5.length e6):=(blk_cell b0.out 9).trans rfl;have A2:e8.cell? ⟨b1,10,none⟩=some (.slice g1 d0.length g2):=(blk_cell b0.out 10).trans rfl;have A5:e8.cell? ⟨b1,11,none⟩=some (.slice f3 b6.length f4):=(blk_cell b0.out 11).trans rfl;have A7:=blk_frozen b0.out 0;have A8:=blk_frozen b0.out 1;have A9:=blk_frozen b0.out 2;have B0:=blk_frozen b0.out 3;have B2:=blk_frozen b0.out 4;have C0:=blk_frozen b0.out 5;have C1:=blk_frozen b0.out 6;have C2:=blk_frozen b0.out 7;have C3:=blk_frozen b0.out 8;have C4:=blk_frozen b0.out 9;have C5:=blk_frozen b0.out 10;have C6:=blk_frozen b0.out 11)|((with_reducible refine gate_callee (f:=42) rfl ?_);refine goesL_ (some 34) rfl rfl Try.func42 (by kernel_rfl) rfl #[.slice e5 b5.length e6,.string (rdOf ByteArray.empty b2 b3)] rfl tz0 ?_;(with_reducible refine (nomination_has.calls k1 _ _ b5 (rdOf ByteArray.empty b2 b3) false _ ?side1 ?side2 k6.out).mono ?_);(case side1=>exact Kd.C_q (Kd.C_below j4.out HB.out));(case side2=>exact j5.out);rintro e w' ⟨rfl,⟨nd,rfl⟩⟩;refine ⟨_,rfl,?_⟩;have C7:e8.cell? ⟨d8,0,none⟩=some (.slice h5 d7.length h6):=(blk_cell b4.out 0).trans rfl;have C8:=blk_frozen b4.out 0)|(go_at_call 43;(with_reducible refine (federated_Accepts.calls k1 _ _ d7 b8 g9 h0 true _ ?side1 ?side2 j6.out).mono ?_);(case side1=>exact (Kd.C_below p3.out (belowP HB)));(case side2=>exact p4.out);rintro e C9 ⟨rfl,hb⟩;refine ap5 (Kd.N_below (by (with_reducible repeat (first|apply Kd.N_alloc|apply Kd.N_drewN|apply Kd.N_drew));exact d6.out) hb) (Kd.R_below (by (with_reducible repeat (first|apply Kd.R_alloc|apply Kd.R_drewN|apply Kd.R_drew));exact e0.out) hb) (blk_below (blkP b0) hb) (blk_below (blkP b4) hb) (below_step (belowP HB) hb) ?_;clear d6 e0 b0 b4 HB;intro d6 e0 b0 b4 HB))
          go_ret2
          exact ⟨rE,by repeat (first|(with_reducible first|exact HB.out|apply below_alloc|apply pw_below_drewN|apply below_drew1|refine below_set ?_ i4.out|refine below_set ?_ i5.out)|exact HB.out)⟩
         ·replace k8:=Bool.eq_false_iff.mpr k8
          subst k8
          rw [if_neg (show ¬ (false=true) by decide)] at H
          have H':=Aside0.mk H
          clear H
          have e2:0≤(b3:Int):=of_decide_eq_true tz2
          have e3:b3 < (b2.length:Int):=of_decide_eq_true tz2
          obtain ⟨n4,h3,n5⟩:=Kd.at_string (Kd.R_reads' e0.out).2.2 b3 e2 e3
          cases h3
          replace e2:=eq_true e2
          replace e3:=eq_true e3
          go_wp2_with (first|((with_reducible refine gate_callee (f:=29) rfl ?_);refine goesL_ (some 28) rfl rfl Try.func29 (by kernel_rfl) rfl #[.slice i6 b7.length i7,.string (rdOf ByteArray.empty b2 b3)] rfl tz0 ?_;(with_reducible refine (nomination_saying.calls k1 _ _ b7 (rdOf ByteArray.empty b2 b3) g9 h0 _ ?side1 ?side2 k5.out).mono ?_);(case side1=>exact Kd.C_q ((Kd.N_reads' d6.out).2.2));(case side2=>exact (Kd.N_reads' d6.out).2.1);rintro e e9 ⟨rfl,hb⟩;refine ⟨_,rfl,?_⟩;refine ap5 (Kd.N_below (by (with_reducible repeat (first|apply Kd.N_alloc|apply Kd.N_drewN|apply Kd.N_drew));exact d6.out) hb) (Kd.R_below (by (with_reducible repeat (first|apply Kd.R_alloc|apply Kd.R_drewN|apply Kd.R_drew));exact e0.out) hb) (blk_below (blkP b0) hb) (blk_below (blkP b4) hb) (below_step (belowP HB) hb) ?_;clear d6 e0 b0 b4 HB;intro d6 e0 b0 b4 HB;have D0:=k0.out;have D1:=k2.out;have D2:e9.cell? ⟨b1,0,none⟩=some (.int .i64 b8):=(blk_cell b0.out 0).trans rfl;have D3:e9.cell? ⟨b1,1,none⟩=some (.int .i64 d1):=(blk_cell b0.out 1).trans rfl;have D4:e9.cell? ⟨b1,2,none⟩=some (.int .i64 d2):=(blk_cell b0.out 2).trans rfl;have D5:e9.cell? ⟨b1,3,none⟩=some (.int .i64 d3):=(blk_cell b0.out 3).trans rfl;have D6:e9.cell? ⟨b1,4,none⟩=some (.int .i64 d4):=(blk_cell b0.out 4).trans rfl;have D7:e9.cell? ⟨b1,5,none⟩=some (.slice f5 b9.length f6):=(blk_cell b0.out 5).trans rfl;have D8:e9.cell? ⟨b1,6,none⟩=some (.slice f7 c0.length f8):=(blk_cell b0.out 6).trans rfl;have D9:e9.cell? ⟨b1,7,none⟩=some (.string d5):=(blk_cell b0.out 7).trans rfl;have E0:e9.cell? ⟨b1,8,none⟩=some (.slice f9 c1.length g0):=(blk_cell b0.out 8).trans rfl;have E1:e9.cell? ⟨b1,9,none⟩=some (.slice e5 b5.length e6):=(blk_cell b0.out 9).trans rfl;have E2:e9.cell? ⟨b1,10,none⟩=some (.slice g1 d0.length g2):=(blk_cell b0.out 10).trans rfl;have E3:e9.cell? ⟨b1,11,none⟩=some (.slice f3 b6.length f4):=(blk_cell b0.out 11).trans rfl;have E4:=blk_frozen b0.out 0;have E5:=blk_frozen b0.out 1;have E6:=blk_frozen b0.out 2;have E7:=blk_frozen b0.out 3;have E8:=blk_frozen b0.out 4;have E9:=blk_frozen b0.out 5;have F0:=blk_frozen b0.out 6;have F1:=blk_frozen b0.out 7;have F2:=blk_frozen b0.out 8;have F3:=blk_frozen b0.out 9;have F4:=blk_frozen b0.out 10;have F5:=blk_frozen b0.out 11)|((with_reducible refine gate_callee (f:=42) rfl ?_);refine goesL_ (some 34) rfl rfl Try.func42 (by kernel_rfl) rfl #[.slice e5 b5.length e6,.string (rdOf ByteArray.empty b2 b3)] rfl tz0 ?_;(with_reducible refine (nomination_has.calls k1 _ _ b5 (rdOf ByteArray.empty b2 b3) false _ ?side1 ?side2 k6.out).mono ?_);(case side1=>exact Kd.C_q (Kd.C_below j4.out HB.out));(case side2=>exact j5.out);rintro e w' ⟨rfl,⟨nd,rfl⟩⟩;refine ⟨_,rfl,?_⟩;have F6:e9.cell? ⟨d8,0,none⟩=some (.slice h5 d7.length h6):=(blk_cell b4.out 0).trans rfl;have F7:=blk_frozen b4.out 0)|(go_at_call 43;(with_reducible refine (federated_Accepts.calls k1 _ _ d7 b8 g9 h0 false _ ?side1 ?side2 j6.out).mono ?_);(case side1=>exact (Kd.C_below p3.out (belowP HB)));(case side2=>exact p4.out);rintro e F8 ⟨rfl,hb⟩;refine ap5 (Kd.N_below (by (with_reducible repeat (first|apply Kd.N_alloc|apply Kd.N_drewN|apply Kd.N_drew));exact d6.out) hb) (Kd.R_below (by (with_reducible repeat (first|apply Kd.R_alloc|apply Kd.R_drewN|apply Kd.R_drew));exact e0.out) hb) (blk_below (blkP b0) hb) (blk_below (blkP b4) hb) (below_step (belowP HB) hb) ?_;clear d6 e0 b0 b4 HB;intro d6 e0 b0 b4 HB))
          go_roundg k1
          case measure=>have:=i8.out;omega
          case rel=>exact ⟨(wrap64 (b3 + 1)),tz3,H',⟨by have:=i8.out;omega⟩,⟨by (with_reducible repeat (first|apply Kd.N_alloc|apply Kd.N_drewN|apply Kd.N_drew));exact d6.out⟩,⟨by (with_reducible repeat (first|apply Kd.R_alloc|apply Kd.R_drewN|apply Kd.R_drew));exact e0.out⟩,⟨by refine blkQ ?_;exact b0.out⟩,⟨by refine blkQ ?_;exact b4.out⟩,⟨by repeat (first|(with_reducible first|exact HB.out|apply below_alloc|apply pw_below_drewN|apply below_drew1|refine below_set ?_ i4.out|refine below_set ?_ i5.out)|exact HB.out)⟩⟩
        ·rw [if_neg j2] at H
         have t3:decide ((b5.length:Int) < 40)=false:=decide_eq_false j2
         have t4:decide (b5.length < 40)=false:=decide_eq_false (by omega)
         clear j2
         have H':=Aside0.mk H
         clear H
         have e2:0≤(b3:Int):=of_decide_eq_true tz2
         have e3:b3 < (b2.length:Int):=of_decide_eq_true tz2
         obtain ⟨n4,h3,n5⟩:=Kd.at_string (Kd.R_reads' e0.out).2.2 b3 e2 e3
         cases h3
         replace e2:=eq_true e2
         replace e3:=eq_true e3
         go_wp2_with (first|((with_reducible refine gate_callee (f:=29) rfl ?_);refine goesL_ (some 28) rfl rfl Try.func29 (by kernel_rfl) rfl #[.slice i6 b7.length i7,.string (rdOf ByteArray.empty b2 b3)] rfl tz0 ?_;(with_reducible refine (nomination_saying.calls k1 _ _ b7 (rdOf ByteArray.empty b2 b3) g9 h0 _ ?side1 ?side2 k5.out).mono ?_);(case side1=>exact Kd.C_q ((Kd.N_reads' d6.out).2.2));(case side2=>exact (Kd.N_reads' d6.out).2.1);rintro e f2 ⟨rfl,hb⟩;refine ⟨_,rfl,?_⟩;refine ap5 (Kd.N_below (by (with_reducible repeat (first|apply Kd.N_alloc|apply Kd.N_drewN|apply Kd.N_drew));exact d6.out) hb) (Kd.R_below (by (with_reducible repeat (first|apply Kd.R_alloc|apply Kd.R_drewN|apply Kd.R_drew));exact e0.out) hb) (blk_below (blkP b0) hb) (blk_below (blkP b4) hb) (below_step (belowP HB) hb) ?_;clear d6 e0 b0 b4 HB;intro d6 e0 b0 b4 HB;have F9:=k0.out;have G0:=k2.out;have G1:f2.cell? ⟨b1,0,none⟩=some (.int .i64 b8):=(blk_cell b0.out 0).trans rfl;have G2:f2.cell? ⟨b1,1,none⟩=some (.int .i64 d1):=(blk_cell b0.out 1).trans rfl;have G3:f2.cell? ⟨b1,2,none⟩=some (.int .i64 d2):=(blk_cell b0.out 2).trans rfl;have G4:f2.cell? ⟨b1,3,none⟩=some (.int .i64 d3):=(blk_cell b0.out 3).trans rfl;have G5:f2.cell? ⟨b1,4,none⟩=some (.int .i64 d4):=(blk_cell b0.out 4).trans rfl;have G6:f2.cell? ⟨b1,5,none⟩=some (.slice f5 b9.length f6):=(blk_cell b0.out 5).trans rfl;have G7:f2.cell? ⟨b1,6,none⟩=some (.slice f7 c0.length f8):=(blk_cell b0.out 6).trans rfl;have G8:f2.cell? ⟨b1,7,none⟩=some (.string d5):=(blk_cell b0.out 7).trans rfl;have G9:f2.cell? ⟨b1,8,none⟩=some (.slice f9 c1.length g0):=(blk_cell b0.out 8).trans rfl;have H0:f2.cell? ⟨b1,9,none⟩=some (.slice e5 b5.length e6):=(blk_cell b0.out 9).trans rfl;have H1:f2.cell? ⟨b1,10,none⟩=some (.slice g1 d0.length g2):=(blk_cell b0.out 10).trans rfl;have H2:f2.cell? ⟨b1,11,none⟩=some (.slice f3 b6.length f4):=(blk_cell b0.out 11).trans rfl;have H3:=blk_frozen b0.out 0;have H4:=blk_frozen b0.out 1;have H5:=blk_frozen b0.out 2;have H6:=blk_frozen b0.out 3;have H7:=blk_frozen b0.out 4;have H8:=blk_frozen b0.out 5;have H9:=blk_frozen b0.out 6;have I0:=blk_frozen b0.out 7;have I1:=blk_frozen b0.out 8;have I2:=blk_frozen b0.out 9;have I3:=blk_frozen b0.out 10;have I4:=blk_frozen b0.out 11)|((with_reducible refine gate_callee (f:=42) rfl ?_);refine goesL_ (some 34) rfl rfl Try.func42 (by kernel_rfl) rfl #[.slice e5 b5.length e6,.string (rdOf ByteArray.empty b2 b3)] rfl tz0 ?_;(with_reducible refine (nomination_has.calls k1 _ _ b5 (rdOf ByteArray.empty b2 b3) false _ ?side1 ?side2 k6.out).mono ?_);(case side1=>exact Kd.C_q (Kd.C_below j4.out HB.out));(case side2=>exact j5.out);rintro e w' ⟨rfl,⟨nd,rfl⟩⟩;refine ⟨_,rfl,?_⟩))
         go_roundg k1
         case measure=>have:=i8.out;omega
         case rel=>exact ⟨(wrap64 (b3 + 1)),tz3,H',⟨by have:=i8.out;omega⟩,⟨by (with_reducible repeat (first|apply Kd.N_alloc|apply Kd.N_drewN|apply Kd.N_drew));exact d6.out⟩,⟨by (with_reducible repeat (first|apply Kd.R_alloc|apply Kd.R_drewN|apply Kd.R_drew));exact e0.out⟩,⟨by refine blkQ ?_;exact b0.out⟩,⟨by refine blkQ ?_;exact b4.out⟩,⟨by repeat (first|(with_reducible first|exact HB.out|apply below_alloc|apply pw_below_drewN|apply below_drew1|refine below_set ?_ i4.out|refine below_set ?_ i5.out)|exact HB.out)⟩⟩
      ·rw [if_neg k4] at H
       exact absurd H (by simp)
     ·rw [if_neg k3] at H
      exact absurd H (by simp)
    ·rw [if_neg i9] at H
     have t2:decide (b3 < (b2.length:Int))=false:=decide_eq_false i9
     clear i9
     simp only [Option.some.injEq,Prod.mk.injEq] at H
     obtain ⟨rfl,rfl⟩:=H
     go_wp2
     go_ret2
     exact ⟨rE,by repeat (first|(with_reducible first|exact HB.out|apply below_alloc|apply pw_below_drewN|apply below_drew1|refine below_set ?_ i4.out|refine below_set ?_ i5.out)|exact HB.out)⟩
 ·rw [if_neg c5] at H
  exact absurd H (by simp)
end Go.Proofs.Ytnkpakakgfkpbaa.P
end
section
namespace Go.Proofs.Ytnkpakakgfkpbaa.P
open Go.RowKit Go.Proofs.YtnkpakakgfkpbaaW.PrintWords Go.Proofs.YtnkpakakgfkpbaaW.PrintLast Go.Proofs.YtnkpakakgfkpbaaW.PrintMore
theorem heap_setCell (w:World) (b o:Nat) (v:Value) (cur:Array Value) (e:TypeId) (fr:Nat × Nat) (h:w.heap[b]? = some (.cells cur e fr)) :
    (w.setCell ⟨b,o,none⟩ v).heap[b]? = some (.cells (cur.setIfInBounds o v) e fr)∧(∀ k,k≠b→(w.setCell ⟨b,o,none⟩ v).heap[k]? = w.heap[k]?)∧(w.setCell ⟨b,o,none⟩ v).heap.size=w.heap.size:=by
  rw [Go.Sort.setCell_eq]
  refine ⟨?_,fun k hk=>?_,?_⟩
  · show (w.heap.modify b _)[b]? = _
    rw [Array.getElem?_modify,if_pos rfl,h];rfl
  · show (w.heap.modify b _)[k]? = _
    rw [Array.getElem?_modify,if_neg (Ne.symm hk)]
  · show (w.heap.modify b _).size=_
    simp
theorem heap_setCells (b:Nat) (e:TypeId) (fr:Nat × Nat):∀ (vs:List Value) (o:Nat) (w:World) (cur:Array Value),w.heap[b]? = some (.cells cur e fr)→
    ∃ cur',(w.setCells b o vs).heap[b]? = some (.cells cur' e fr)∧cur'.size=cur.size∧(∀ k,k≠b→(w.setCells b o vs).heap[k]? = w.heap[k]?)∧(w.setCells b o vs).heap.size=w.heap.size∧(w.setCells b o vs).os=w.os∧(w.setCells b o vs).tape=w.tape∧(w.setCells b o vs).output=w.output
  | [],_,w,cur,h=>⟨cur,h,rfl,fun _ _=>rfl,rfl,rfl,rfl,rfl⟩
  | v :: r,o,w,cur,h=>by
    obtain ⟨h1,h2,h3⟩:=heap_setCell w b o v cur e fr h
    obtain ⟨cur',g1,g2,g3,g4,g5,g6,g7⟩:=heap_setCells b e fr r (o + 1) _ _ h1
    exact ⟨cur',g1,by simpa using g2,fun k hk=>(g3 k hk).trans (h2 k hk),g4.trans h3,g5,g6,g7⟩
theorem own_mk {w:World} {base g cap n:Nat} {e:TypeId} {xs:List Value} {cur:Array Value} (hg:base≤g) (hb:w.heap[g]? = some (.cells cur e (0,0))) (hs:cur.size=cap) (hn:n≤cap) (hc:cap≤maxLen) (hl:xs.length=n)
    (hx:∀ j v,xs[j]? = some v→w.cell? ⟨g,j,none⟩=some v):w.ownsRow base e 1 (.slice (some ⟨g,0,none⟩) n cap) n xs:=by
  refine ⟨by omega,.inr ⟨g,cap,cur,rfl,hg,hb,hn,hc,by omega,?_⟩⟩
  apply List.ext_getElem?
  intro j
  rw [Nat.mul_one,List.getElem?_take]
  by_cases hj:j < n
  · rw [if_pos hj]
    have h1:=hx j _ (List.getElem?_eq_getElem (by omega))
    have h2:cur.toList.length=cap:=by simp [hs]
    rw [List.getElem?_eq_getElem (show j < xs.length by omega),← h1]
    simp [World.cell?,hb]
  · rw [if_neg hj,List.getElem?_eq_none (by omega)]
theorem own_cells {w:World} {base g cap n:Nat} {e:TypeId} {xs:List Value} (ho:w.ownsRow base e 1 (.slice (some ⟨g,0,none⟩) n cap) n xs):∃ cur,base≤g∧w.heap[g]? = some (.cells cur e (0,0))∧cur.size=cap∧n≤cap∧cap≤maxLen∧xs.length=n∧(∀ j v,xs[j]? = some v→w.cell? ⟨g,j,none⟩=some v):=by
  obtain ⟨h1,h2⟩:=ho
  rcases h2 with ⟨h,h0⟩|⟨g',cap',cur,hv,hg,hb,hn,hc,hcs,htk⟩
  · cases h
  · injection hv with hv1 hv2 hv3
    injection hv1 with hv1
    injection hv1 with hv1
    subst hv1;subst hv3
    refine ⟨cur,hg,hb,by omega,hn,hc,by omega,fun j v hj=>?_⟩
    have hlt:j < xs.length:=(List.getElem?_eq_some_iff.1 hj).1
    rw [← htk,List.getElem?_take,if_pos (by omega)] at hj
    simpa [World.cell?,hb] using hj
theorem cell_some {w:World} {g:Nat} {cur:Array Value} {e:TypeId} {fr:Nat × Nat} (hb:w.heap[g]? = some (.cells cur e fr)) (j:Nat) (hj:j < cur.size):(w.cell? ⟨g,j,none⟩).isSome=true:=by
  simp [World.cell?,hb,hj]
theorem not_frozen {w:World} {g:Nat} {cur:Array Value} {e:TypeId} (hb:w.heap[g]? = some (.cells cur e (0,0))) (j:Nat):w.frozen? ⟨g,j,none⟩=false:=by
  simp [World.frozen?,hb]
def InsPost (P0_ P2_:Nat→Prop) (w0 w:World) (r:List ByteArray) (e:Ending) (w':World):Prop:=∃ v0_:Value,e = .returned (v0_)∧Kd.R Kd.string 9 w' w0.heap.size (fun k_=>((P0_ k_∨P2_ k_)∨w.heap.size≤k_)) v0_ r∧Below w0.heap.size w0 w'∧Kept w w' (fun k_=>P0_ k_∨P2_ k_)
theorem ins_new {P0_ P2_:Nat→Prop} {w0 w w':World} (hB:Below w0.heap.size w0 w) {r:List ByteArray} {n cap:Nat} {cur:Array Value} (hb:w'.heap[w.heap.size]? = some (.cells cur 9 (0,0))) (hs:cur.size=cap) (hn:n≤cap) (hc:cap≤maxLen) (hl:r.length=n)
    (hx:∀ j v,(encs Value.string r)[j]? = some v→w'.cell? ⟨w.heap.size,j,none⟩=some v) (hgr:Below w.heap.size w w'):InsPost P0_ P2_ w0 w r (.returned (.slice (some ⟨w.heap.size,0,none⟩) n cap)) w':=by
  refine ⟨_,rfl,?_,below_then hB hB.size hgr,⟨hgr.size,fun i hi _=>hgr.block i hi⟩⟩
  refine Kd.R_of_own (h1:=fun _=>rfl) (enc:=Value.string) ?_ (fun k hk=>.inr (by simp [Value.ownBlock] at hk;omega))
  rw [hl]
  exact own_mk hB.size hb hs hn hc (by simp [encs,hl]) hx
theorem ins_same {P0_ P2_:Nat→Prop} {w0 w w':World} (hB:Below w0.heap.size w0 w) {r:List ByteArray} {g n cap:Nat} {cur:Array Value} (hg:w0.heap.size≤g) (hP:P0_ g) (hb:w'.heap[g]? = some (.cells cur 9 (0,0))) (hs:cur.size=cap) (hn:n≤cap) (hc:cap≤maxLen) (hl:r.length=n)
    (hx:∀ j v,(encs Value.string r)[j]? = some v→w'.cell? ⟨g,j,none⟩=some v) (hgr:w.grownBy w' (some g)):InsPost P0_ P2_ w0 w r (.returned (.slice (some ⟨g,0,none⟩) n cap)) w':=by
  refine ⟨_,rfl,?_,pw_below_grown hB _ hB.size hgr (fun k hk=>by injection hk with hk;omega),⟨hgr.size,fun i hi hne=>hgr.block i hi (fun he=>hne (.inl (by injection he with he;rw [he];exact hP)))⟩⟩
  refine Kd.R_of_own (h1:=fun _=>rfl) (enc:=Value.string) ?_ (fun k hk=>.inl (.inl (by simp [Value.ownBlock] at hk;subst hk;exact hP)))
  rw [hl]
  exact own_mk hg hb hs hn hc (by simp [encs,hl]) hx
theorem below_new (w:World) (o:Obj):Below w.heap.size w (w.drew.alloc o):=((Below.refl _ w).drew).alloc (Nat.le_refl _) o
def slices_Insert_string_string.f (l0:List ByteArray) (a1:Int) (l2:List ByteArray):Option (List ByteArray):=
  if 0≤a1∧a1≤(l0.length:Int)∧l2.length=1∧l0.length < 1000000000 then some (l0.take a1.toNat ++ l2 ++ l0.drop a1.toNat) else none
theorem encs_get (r:List ByteArray) (j:Nat):(encs Value.string r)[j]? = (r[j]?).map Value.string:=by simp [encs]
set_option maxHeartbeats 1000000 in
theorem insert_end_new (P0_ P2_:Nat→Prop) (w0 w:World) (hB:Below w0.heap.size w0 w) (base:Option Addr) (cap vb vc:Nat) (l0:List ByteArray) (x:ByteArray) (hn:l0.length≤cap) (hroom:cap < l0.length + 1) (hbig:l0.length < 1000000000)
    (hnil:base=none→l0.length=0) (hcs:∀ a,base=some a→∀ j v,(encs Value.string l0)[j]? = some v→w.cell? (a.add j)=some v) (hv:w.cell? ⟨vb,0,none⟩=some (.string x)) :
    Calls Try.prog 45 #[.slice base l0.length cap,.int .i64 (l0.length:Int),.slice (some ⟨vb,0,none⟩) 1 vc] w (InsPost P0_ P2_ w0 w (l0 ++ [x])):=by
  refine (Any2.slices_Insert_string_end_grow Try.insStr base l0.length cap vb 0 1 vc (encs Value.string l0) [.string x] w (by omega) hn hroom (by omega) (by simp [encs]) rfl hnil hcs
    (fun j v hj=>by
      rcases j with _|j
      · obtain rfl:Value.string x=v:=by simpa using hj
        exact hv
      · simp at hj) (by simp [Value.oneCell'])).mono ?_
  rintro e w' ⟨rfl,rfl⟩
  have h1:=grownCap_ge w (l0.length + 1) cap 9
  have h2:=grownCap_le_maxLen w (l0.length + 1) cap 9 (by unfold maxLen;omega)
  show InsPost P0_ P2_ w0 w (l0 ++ [x]) (.returned (.slice (some ⟨w.heap.size,0,none⟩) (l0.length + 1) (grownCap w (l0.length + 1) cap 9))) (w.drew.alloc (.cells ((encs Value.string l0 ++ [Value.string x]).toArray ++ Builtin.zeroCells (Value.string ⟨#[]⟩).cells (grownCap w (l0.length + 1) cap 9 - (l0.length + 1))) 9))
  refine ins_new hB (cur:=(encs Value.string l0 ++ [Value.string x]).toArray ++ Builtin.zeroCells (Value.string ⟨#[]⟩).cells (grownCap w (l0.length + 1) cap 9 - (l0.length + 1))) ?_ ?_ h1 h2 (by simp) (fun j v hj=>?_) (below_new w _)
  · exact heap_alloc_new w.drew _
  · simp [encs,Builtin.zeroCells,Value.cells];omega
  · rw [World.cell?_alloc_at (w:=w.drew) _ _ w.heap.size j rfl]
    have hlt:j < l0.length + 1:=by have:=(List.getElem?_eq_some_iff.1 hj).1;simpa [encs] using this
    rw [Array.getElem?_append_left (by simp [encs];omega)]
    simpa [encs] using hj
set_option maxHeartbeats 1000000 in
theorem slices_Insert_string_string.calls (P0_:Nat→Prop) (u9000_:Value) (l0:List ByteArray) (a1:Int) (P2_:Nat→Prop) (u9001_:Value) (l2:List ByteArray) (r:List ByteArray) (w0 w:World) (hB:Below w0.heap.size w0 w)
    (ho0:Kd.R Kd.string 9 w w0.heap.size P0_ u9000_ l0) (hp0_2:∀ k_,P0_ k_→¬ P2_ k_) (ho2:Kd.R Kd.string 9 w w0.heap.size P2_ u9001_ l2) (hp2_0:∀ k_,P2_ k_→¬ P0_ k_) (h:slices_Insert_string_string.f l0 a1 l2=some r) :
    Calls Try.prog 45 #[u9000_,.int .i64 a1,u9001_] w fun e w'=>∃ v0_:Value,e = .returned (v0_)∧Kd.R Kd.string 9 w' w0.heap.size (fun k_=>((P0_ k_∨P2_ k_)∨w.heap.size≤k_)) v0_ r∧Below w0.heap.size w0 w'∧Kept w w' (fun k_=>P0_ k_∨P2_ k_):=by
  show Calls _ _ _ _ (InsPost P0_ P2_ w0 w r)
  unfold slices_Insert_string_string.f at h
  split at h
  · rename_i hc
    obtain ⟨h0,h1,h2,h3⟩:=hc
    obtain rfl:=Option.some.inj h
    obtain ⟨i,rfl⟩:=Int.eq_ofNat_of_zero_le h0
    obtain ⟨x,rfl⟩:∃ x,l2 = [x]:=by
      match l2,h2 with
      | [x],_=>exact ⟨x,rfl⟩
    have hi:i≤l0.length:=by omega
    rw [Int.toNat_natCast]
    have hw2:=Kd.own_of_R ho2
    have hk2:=ho2.1
    rcases hw2.2 with ⟨rfl,hz⟩|⟨vb,vc,vcur,rfl,hvg,hvb,hvn,hvc,hvcs,hvtk⟩
    · simp at hz
    have hv:w.cell? ⟨vb,0,none⟩=some (.string x):=by
      obtain ⟨_,_,_,_,_,_,_,hx⟩:=own_cells hw2
      exact hx 0 _ rfl
    have hw1:=Kd.own_of_R ho0
    have hk0:=ho0.1
    rcases hw1.2 with ⟨rfl,hz⟩|⟨g,cap,cur,rfl,hg,hb,hn,hc,hcs,htk⟩
    · obtain rfl:l0 = []:=List.eq_nil_of_length_eq_zero hz
      obtain rfl:i=0:=by simpa using hi
      exact insert_end_new P0_ P2_ w0 w hB none 0 vb vc [] x (by simp) (by simp) (by simp) (fun _=>rfl) (fun a ha=>by cases ha) hv
    · obtain ⟨_,_,_,_,_,_,_,hx⟩:=own_cells hw1
      have hcsz:cur.size=cap:=by omega
      have hgP:P0_ g:=hk0 g rfl
      have hvP:P2_ vb:=hk2 vb rfl
      have hne:vb≠g:=fun he=>hp0_2 g hgP (he ▸ hvP)
      have hlen:(encs Value.string l0).length=l0.length:=by simp [encs]
      by_cases hend:i=l0.length
      · subst hend
        by_cases hroom:l0.length + 1≤cap
        · refine (Any2.slices_Insert_string_end_room Try.insStr g 0 l0.length cap vb 0 1 vc [.string x] w (by omega) hroom (by simp only [maxLen] at hc;omega) rfl
            (fun j hj=>by rw [Nat.zero_add];exact cell_some hb _ (by omega)) (fun j hj=>not_frozen hb _)
            (fun j v hj=>by
              rcases j with _|j
              · obtain rfl:Value.string x=v:=by simpa using hj
                exact hv
              · simp at hj) (by simp [Value.oneCell'])).mono ?_
          rintro e w' ⟨rfl,rfl⟩
          obtain ⟨cur',g1,g2,g3,g4,g5,g6,g7⟩:=heap_setCells g 9 (0,0) [.string x] (0 + l0.length) w cur hb
          refine ins_same hB hg hgP g1 (by omega) hroom hc (by simp) (fun j v hj=>?_) ⟨g5,g6,g7,by omega,fun k hk hk2=>g3 k (fun he=>hk2 (by rw [he]))⟩
          have hjl:j < l0.length + 1:=by have:=(List.getElem?_eq_some_iff.1 hj).1;simpa [encs] using this
          rw [encs_get] at hj
          by_cases hjl2:j < l0.length
          · rw [World.cell?_setCells_out g _ _ _ _ (fun _ _=>.inl (by simp;omega))]
            refine hx j v ?_
            rw [encs_get]
            simpa [List.getElem?_append_left hjl2] using hj
          · obtain rfl:j=l0.length:=by omega
            have:=World.cell?_setCells_in g [.string x] (0 + l0.length) w (fun j hj=>by rw [Nat.zero_add];exact cell_some hb _ (by simp at hj;omega)) 0 (by simp)
            rw [show 0 + l0.length + 0=l0.length by omega] at this
            simp at hj
            rw [this,← hj]
            rfl
        · have:=insert_end_new P0_ P2_ w0 w hB (some ⟨g,0,none⟩) cap vb vc l0 x hn (by omega) h3 (by simp) (fun a ha j v hj=>by injection ha with ha;subst ha;rw [add_plain];exact hx j v hj) hv
          simpa using this
      · have hil:i < l0.length:=by omega
        have hxs:l0.take i ++ [x] ++ l0.drop i=l0.take i ++ x :: l0.drop i:=by simp
        have hlen2:(l0.take i ++ [x] ++ l0.drop i).length=l0.length + 1:=by simp;omega
        have hdl:((encs Value.string l0).drop i).length=l0.length - i:=by rw [List.length_drop,hlen]
        have hget:∀ j v,(encs Value.string (l0.take i ++ [x] ++ l0.drop i))[j]? = some v→(j < i∧(encs Value.string l0)[j]? = some v)∨(j=i∧v = .string x)∨(i < j∧j < l0.length + 1∧((encs Value.string l0).drop i)[j - (i + 1)]? = some v):=fun j v hj=>by
          have hjl:j < l0.length + 1:=by have:=(List.getElem?_eq_some_iff.1 hj).1;rw [encs,List.length_map,hlen2] at this;exact this
          rw [encs_get,hxs] at hj
          rcases Nat.lt_trichotomy j i with hlt|heq|hgt
          · refine .inl ⟨hlt,?_⟩
            rw [List.getElem?_append_left (by simp;omega),List.getElem?_take,if_pos hlt] at hj
            rw [encs_get];exact hj
          · subst heq
            rw [List.getElem?_append_right (by rw [List.length_take];omega)] at hj
            simp [Nat.min_eq_left hi] at hj
            exact .inr (.inl ⟨rfl,hj.symm⟩)
          · refine .inr (.inr ⟨hgt,hjl,?_⟩)
            rw [List.getElem?_append_right (by simp;omega)] at hj
            simp only [List.length_take,Nat.min_eq_left hi] at hj
            obtain ⟨q,rfl⟩:∃ q,j=i + 1 + q:=⟨j - (i + 1),by omega⟩
            rw [show i + 1 + q - i=q + 1 by omega,List.getElem?_cons_succ] at hj
            rw [show i + 1 + q - (i + 1)=q by omega]
            simpa [encs,List.getElem?_drop] using hj
        have hvs:∀ j v,[Value.string x][j]? = some v→w.cell? ⟨vb,0 + j,none⟩=some v:=fun j v hj=>by
          rcases j with _|j
          · obtain rfl:Value.string x=v:=by simpa using hj
            exact hv
          · simp at hj
        have h1c:∀ v ∈ encs Value.string l0,v.oneCell'=true:=fun v hv=>by
          simp only [encs,List.mem_map] at hv
          obtain ⟨_,_,rfl⟩:=hv
          rfl
        by_cases hroom:l0.length + 1≤cap
        · refine (Any2.slices_Insert_string_shift Try.insStr g 0 l0.length cap i vb 0 1 vc (encs Value.string l0) [.string x] w hil (by omega) hroom (by simp only [maxLen] at hc;omega) hne hlen rfl
            (fun j v hj=>by rw [Nat.zero_add];exact hx j v hj) (fun j hj=>by rw [Nat.zero_add];exact cell_some hb _ (by omega)) (fun j hj=>not_frozen hb _) hvs h1c (by simp [Value.oneCell'])
            9 9 vcur.size cur.size (by simp [World.shape?,hvb]) (by simp [World.shape?,hb]) (by omega) (not_frozen hvb _) (not_frozen hvb _)).mono ?_
          rintro e w' ⟨rfl,rfl⟩
          have hb':w.drew.heap[g]? = some (.cells cur 9 (0,0)):=hb
          obtain ⟨cur1,a1,a2,a3,a4,a5,a6,a7⟩:=heap_setCells g 9 (0,0) ((encs Value.string l0).drop i) (0 + (i + 1)) w.drew cur hb'
          obtain ⟨cur2,b1,b2,b3,b4,b5,b6,b7⟩:=heap_setCells g 9 (0,0) [.string x] (0 + i) _ cur1 a1
          refine ins_same hB hg hgP b1 (by omega) hroom hc hlen2 (fun j v hj=>?_) ⟨b5.trans a5,b6.trans a6,b7.trans a7,by rw [b4,a4];exact Nat.le_refl _,fun k hk hk2=>(b3 k (fun he=>hk2 (by rw [he]))).trans (a3 k (fun he=>hk2 (by rw [he])))⟩
          rcases hget j v hj with ⟨hlt,hv'⟩|⟨rfl,rfl⟩|⟨hgt,hjl,hv'⟩
          · rw [World.cell?_setCells_out g _ _ _ _ (fun _ _=>.inl (by simp;omega)),World.cell?_setCells_out g _ _ _ _ (fun _ _=>.inl (by simp;omega))]
            exact hx j v hv'
          · have:=World.cell?_setCells_in g [.string x] (0 + j) _ (fun q hq=>by simp at hq;subst hq;exact cell_some a1 _ (by omega)) 0 (by simp)
            simpa using this
          · rw [World.cell?_setCells_out g _ _ _ _ (fun _ _=>.inr (by simp;omega))]
            have hq:j - (i + 1) < ((encs Value.string l0).drop i).length:=by omega
            have:=World.cell?_setCells_in g ((encs Value.string l0).drop i) (0 + (i + 1)) w.drew (fun q hq=>cell_some hb' _ (by omega)) (j - (i + 1)) hq
            rw [show 0 + (i + 1) + (j - (i + 1))=j by omega] at this
            rw [this,← hv',List.getElem?_eq_getElem hq]
        · refine (Any2.slices_Insert_string_grow Try.insStr g 0 l0.length cap i vb 0 1 vc (encs Value.string l0) [.string x] w hil (by omega) hn (by omega) (by omega) hlen rfl (fun j v hj=>by rw [Nat.zero_add];exact hx j v hj) hvs h1c (by simp [Value.oneCell'])).mono ?_
          rintro e w' ⟨rfl,rfl⟩
          have e1:=grownCap_ge w (l0.length + 1) cap 9
          have e2:=grownCap_le_maxLen w (l0.length + 1) cap 9 (by unfold maxLen;omega)
          obtain ⟨G,hG⟩:∃ G,G=grownCap w (l0.length + 1) cap 9:=⟨_,rfl⟩
          have e1':l0.length + 1≤G:=by rw [hG];exact e1
          have e2':G≤maxLen:=by rw [hG];exact e2
          obtain ⟨ROW,hROW⟩:∃ ROW:Array Value,ROW=((encs Value.string l0).take i).toArray ++ Builtin.zeroCells (Value.string ⟨#[]⟩).cells (l0.length + 1 - i) ++ Builtin.zeroCells (Value.string ⟨#[]⟩).cells (G - (l0.length + 1)):=⟨_,rfl⟩
          show InsPost P0_ P2_ w0 w _ (.returned (.slice (some ⟨w.heap.size,0,none⟩) (l0.length + 1) (grownCap w (l0.length + 1) cap 9))) (((w.alloc (.cells (((encs Value.string l0).take i).toArray ++ Builtin.zeroCells (Value.string ⟨#[]⟩).cells (l0.length + 1 - i) ++ Builtin.zeroCells (Value.string ⟨#[]⟩).cells (grownCap w (l0.length + 1) cap 9 - (l0.length + 1))) 9)).drew.setCells w.heap.size i [.string x]).drew.setCells w.heap.size (i + 1) ((encs Value.string l0).drop i))
          rw [← hG,← hROW]
          have hRs:ROW.size=G:=by rw [hROW];simp [Builtin.zeroCells,Value.cells,encs];omega
          have hb':(w.alloc (.cells ROW 9)).drew.heap[w.heap.size]? = some (.cells ROW 9 (0,0)):=heap_alloc_new w _
          obtain ⟨cur1,a1,a2,a3,a4,a5,a6,a7⟩:=heap_setCells w.heap.size 9 (0,0) [.string x] i _ ROW hb'
          have a1':((w.alloc (.cells ROW 9)).drew.setCells w.heap.size i [.string x]).drew.heap[w.heap.size]? = some (.cells cur1 9 (0,0)):=a1
          obtain ⟨cur2,b1,b2,b3,b4,b5,b6,b7⟩:=heap_setCells w.heap.size 9 (0,0) ((encs Value.string l0).drop i) (i + 1) _ cur1 a1'
          have hbel:Below w.heap.size w (w.alloc (.cells ROW 9)).drew:=((Below.refl _ w).alloc (Nat.le_refl _) _).drew
          refine ins_new hB b1 (by omega) e1' e2' hlen2 (fun j v hj=>?_) ⟨b5.trans (a5.trans hbel.os),b6.trans (a6.trans hbel.tape),b7.trans (a7.trans hbel.output),by rw [b4];show _≤(World.setCells _ _ _ _).heap.size;rw [a4];exact hbel.size,fun k hk=>(b3 k (by omega)).trans ((a3 k (by omega)).trans (hbel.block k hk))⟩
          rcases hget j v hj with ⟨hlt,hv'⟩|⟨rfl,rfl⟩|⟨hgt,hjl,hv'⟩
          · rw [World.cell?_setCells_out w.heap.size _ _ _ _ (fun _ _=>.inl (by simp;omega))]
            show (World.setCells _ _ _ _).cell? _=_
            rw [World.cell?_setCells_out w.heap.size _ _ _ _ (fun _ _=>.inl (by simp;omega))]
            show (w.alloc (.cells ROW 9)).cell? ⟨w.heap.size,j,none⟩=some v
            rw [World.cell?_alloc_at ROW _ w.heap.size j rfl,hROW,Array.append_assoc,Array.getElem?_append_left (by simp [encs];omega)]
            simpa [List.getElem?_take,hlt] using hv'
          · rw [World.cell?_setCells_out w.heap.size _ _ _ _ (fun _ _=>.inl (by simp))]
            have:=World.cell?_setCells_in w.heap.size [.string x] j (w.alloc (.cells ROW 9)).drew (fun q hq=>by simp at hq;subst hq;exact cell_some hb' _ (by omega)) 0 (by simp)
            simpa using this
          · have hq:j - (i + 1) < ((encs Value.string l0).drop i).length:=by omega
            have:=World.cell?_setCells_in w.heap.size ((encs Value.string l0).drop i) (i + 1) _ (fun q hq=>cell_some a1' _ (by omega)) (j - (i + 1)) hq
            rw [show i + 1 + (j - (i + 1))=j by omega] at this
            rw [this,← hv',List.getElem?_eq_getElem hq]
  · cases h
end Go.Proofs.Ytnkpakakgfkpbaa.P
end
section
namespace Go.Proofs.Ytnkpakakgfkpbaa.P
open Go.RowKit Go.Proofs.YtnkpakakgfkpbaaW.PrintWords Go.Proofs.YtnkpakakgfkpbaaW.PrintLast Go.Proofs.YtnkpakakgfkpbaaW.PrintMore
attribute [local go_sem] max2_int max_two binOp_string_gtr_pp
def sBS.l0:Nat→List ByteArray→ByteArray→Int→Int→Int→Option (Int × Bool)
 | 0,_,_,_,_,_=>none
 | k + 1,x0,x1,x8,x9,a5=>if x9 < a5 then (if 0≤(wrap64 ((IntKind.u64.wrap (wrap64 (x9 + a5))) / 2)) then (if (wrap64 ((IntKind.u64.wrap (wrap64 (x9 + a5))) / 2)) < (x0.length:Int) then ((nomination_Compare.f k (rdOf ByteArray.empty x0 (wrap64 ((IntKind.u64.wrap (wrap64 (x9 + a5))) / 2))) x1).bind fun a4=>(if a4 < 0 then (sBS.l0 k x0 x1 x8 (wrap64 ((wrap64 ((IntKind.u64.wrap (wrap64 (x9 + a5))) / 2)) + 1)) a5) else (sBS.l0 k x0 x1 x8 x9 (wrap64 ((IntKind.u64.wrap (wrap64 (x9 + a5))) / 2))))) else (none)) else (none)) else (if x9 < x8 then (if 0≤x9 then (if x9 < (x0.length:Int) then ((nomination_Compare.f k (rdOf ByteArray.empty x0 x9) x1).bind fun b0=>(some (x9,(b0 == 0)))) else (none)) else (none)) else (some (x9,false)))
def sBS.f (k:Nat) (l0:List ByteArray) (a1:ByteArray)  : Option (Int × Bool):=sBS.l0 k l0 a1 (l0.length:Int) 0 (l0.length:Int)
theorem sBS.mono_l:∀ k,(∀ y0 y1 y2 y3 y4,LeO (sBS.l0 k y0 y1 y2 y3 y4) (sBS.l0 (k + 1) y0 y1 y2 y3 y4))
 | 0=>fun _ _ _ _ _ r h=>by simp [sBS.l0] at h
 | k + 1=>by
  have b4:=sBS.mono_l k
  ·intro y0 y1 y2 y3 y4
   unfold sBS.l0
   repeat' first
   | (with_reducible exact b4 _ _ _ _ _)
   | (with_reducible apply nomination_Compare.mono)
   | (with_reducible exact LeO.refl _)
   | (with_reducible exact LeO.none _)
   | (with_reducible refine LeO.ite ?_ ?_)
   | (with_reducible refine LeO.bind ?_ (fun _=>?_))
theorem sBS.mono:∀ a0 a1 k,LeO (sBS.f k a0 a1) (sBS.f (k + 1) a0 a1):=by
 intro a0 a1 k
 have b4:=sBS.mono_l k
 unfold sBS.f
 repeat' first
   | (with_reducible exact b4 _ _ _ _ _)
   | (with_reducible apply nomination_Compare.mono)
   | (with_reducible exact LeO.refl _)
   | (with_reducible exact LeO.none _)
   | (with_reducible refine LeO.ite ?_ ?_)
   | (with_reducible refine LeO.bind ?_ (fun _=>?_))
set_option maxHeartbeats 8000000 in
set_option maxRecDepth 100000 in
theorem sBS.calls (k:Nat) (A0:Option Addr) (c0:Nat) (l0:List ByteArray) (a1:ByteArray)  (r1:Int) (r2:Bool) (w:World) (c1:Kd.C Kd.string w A0 l0.length l0) (d0:l0.length≤c0) (h:sBS.f k l0 a1=some (r1,r2)) :
  Calls Try.prog 44 #[.slice A0 l0.length c0,.string a1,.func (.func 9) #[] #[]] w fun e w'=>e = .returned (.tuple #[.int .i64 r1,.bool r2])∧Below w.heap.size w w':=by
 have e9:∀ args w,(callFunc 9 args).run Try.prog w = .ok (.enter 9 args) w:=enters_of Try.func9 (by kernel_rfl) rfl
 have b5:=Aside0.mk c1
 have e0:=Aside0.mk d0
 clear c1 d0
 have HB:=Aside0.mk (Below.refl w.heap.size w)
 have H:(sBS.l0 k l0 a1 (l0.length:Int) 0 (l0.length:Int))=some (r1,r2):=h
 clear h
 have H':=Aside0.mk H
 clear H
 go_enter Try.func44,Try.ntmps44
 go_wp2
 go_loopg [9,10] k (fun kq v9 d3 w'=>∃ (a2:Int) (a3:Int),v9 = .int .i64 a2∧d3 = .int .i64 a3∧Aside0 (sBS.l0 kq l0 a1 (l0.length:Int) a2 a3=some (r1,r2))∧Aside0 (kq≤k)∧Aside0 (Below w.heap.size w w'))
 case atStart=>exact ⟨(0),((l0.length:Int)),tz3,tz3,H',⟨Nat.le_refl _⟩,⟨by repeat (first|(with_reducible first|exact HB.out|apply below_alloc|apply pw_below_drewN|apply below_drew1)|exact HB.out)⟩⟩
 case round=>
  clear H'
  try clear HB
  obtain ⟨a2,a3,rfl,rfl,HA,b1,HB⟩:=hrel
  cases gk with
  | zero=>exact absurd HA.out (by simp [sBS.l0])
  | succ k1=>
   have H:=HA.out
   clear HA
   simp only [sBS.l0] at H
   by_cases c4:a2 < a3
   ·rw [if_pos c4] at H
    have d4:decide (a2 < a3)=true:=decide_eq_true c4
    clear c4
    obtain ⟨ji5,hji5⟩:∃ j_:Int,(wrap64 ((IntKind.u64.wrap (wrap64 (a2 + a3))) / 2))=j_:=⟨_,rfl⟩
    replace H:(if 0≤(ji5) then (if (ji5) < (l0.length:Int) then ((nomination_Compare.f k1 (rdOf ByteArray.empty l0 (ji5)) a1).bind fun a4=>(if a4 < 0 then (sBS.l0 k1 l0 a1 (l0.length:Int) (wrap64 ((ji5) + 1)) a3) else (sBS.l0 k1 l0 a1 (l0.length:Int) a2 ji5))) else (none)) else (none))=some (r1,r2):=by first|(rw [hji5] at H;exact H)|(simp only [hji5] at H ⊢;exact H)
    have hji5w:(IntKind.i64.wrap ((IntKind.u64.wrap (wrap64 (a2 + a3))) / 2))=ji5:=(i64_w _).trans hji5
    by_cases c6:0≤(ji5)
    ·rw [if_pos c6] at H
     have e1:decide (0≤(ji5))=true:=decide_eq_true c6
     clear c6
     by_cases c7:(ji5) < (l0.length:Int)
     ·rw [if_pos c7] at H
      have e2:decide ((ji5) < (l0.length:Int))=true:=decide_eq_true c7
      clear c7
      replace H:=Option.bind_eq_some_iff.mp H
      obtain ⟨a4,d1,H⟩:=H
      replace H:(if a4 < 0 then (sBS.l0 k1 l0 a1 (l0.length:Int) (wrap64 ((ji5) + 1)) a3) else (sBS.l0 k1 l0 a1 (l0.length:Int) a2 ji5))=some (r1,r2):=H
      have A8:=Aside0.mk d1
      clear d1
      by_cases c9:a4 < 0
      ·rw [if_pos c9] at H
       have d5:decide (a4 < 0)=true:=decide_eq_true c9
       clear c9
       have H':=Aside0.mk H
       clear H
       have a6:0≤((ji5):Int):=of_decide_eq_true tz2
       have a7:(ji5) < (l0.length:Int):=of_decide_eq_true tz2
       obtain ⟨d6,b6,a8⟩:=Kd.at_string b5.out (ji5) a6 a7
       cases b6
       replace a8:=(HB.out.cell (World.block_lt_of_cell? w _ a8)).trans a8
       replace a6:=eq_true a6
       replace a7:=eq_true a7
       go_wp2_with (first|(go_at_call 9;(with_reducible refine (nomination_Compare.calls k1 (rdOf ByteArray.empty l0 (ji5)) a1 a4 _ A8.out).mono ?_);rintro e e3 ⟨rfl,hb⟩;refine ap1 (below_step (belowP HB) hb) ?_;clear HB;intro HB))
       go_roundg k1
       case measure=>have:=b1.out;omega
       case rel=>exact ⟨(wrap64 ((ji5) + 1)),(a3),(by first|rfl|(simp;done)|(simp only [← hji5] <;> (first|rfl|simp))|(simp [*];done)),tz3,H',⟨by have:=b1.out;omega⟩,⟨by repeat (first|(with_reducible first|exact HB.out|apply below_alloc|apply pw_below_drewN|apply below_drew1)|exact HB.out)⟩⟩
      ·rw [if_neg c9] at H
       have d5:decide (a4 < 0)=false:=decide_eq_false c9
       clear c9
       have H':=Aside0.mk H
       clear H
       have a6:0≤((ji5):Int):=of_decide_eq_true tz2
       have a7:(ji5) < (l0.length:Int):=of_decide_eq_true tz2
       obtain ⟨d6,b6,a8⟩:=Kd.at_string b5.out (ji5) a6 a7
       cases b6
       replace a8:=(HB.out.cell (World.block_lt_of_cell? w _ a8)).trans a8
       replace a6:=eq_true a6
       replace a7:=eq_true a7
       go_wp2_with (first|(go_at_call 9;(with_reducible refine (nomination_Compare.calls k1 (rdOf ByteArray.empty l0 (ji5)) a1 a4 _ A8.out).mono ?_);rintro e e4 ⟨rfl,hb⟩;refine ap1 (below_step (belowP HB) hb) ?_;clear HB;intro HB))
       go_roundg k1
       case measure=>have:=b1.out;omega
       case rel=>exact ⟨(a2),(ji5),tz3,(by first|rfl|(simp;done)|(simp only [← hji5] <;> (first|rfl|simp))|(simp [*];done)),H',⟨by have:=b1.out;omega⟩,⟨by repeat (first|(with_reducible first|exact HB.out|apply below_alloc|apply pw_below_drewN|apply below_drew1)|exact HB.out)⟩⟩
     ·rw [if_neg c7] at H
      exact absurd H (by simp)
    ·rw [if_neg c6] at H
     exact absurd H (by simp)
   ·rw [if_neg c4] at H
    have d4:decide (a2 < a3)=false:=decide_eq_false c4
    clear c4
    by_cases a9:a2 < (l0.length:Int)
    ·rw [if_pos a9] at H
     have d7:decide (a2 < (l0.length:Int))=true:=decide_eq_true a9
     clear a9
     by_cases b2:0≤a2
     ·rw [if_pos b2] at H
      have e5:decide (0≤a2)=true:=decide_eq_true b2
      clear b2
      by_cases b3:a2 < (l0.length:Int)
      ·rw [if_pos b3] at H
       have e6:decide (a2 < (l0.length:Int))=true:=decide_eq_true b3
       clear b3
       replace H:=Option.bind_eq_some_iff.mp H
       obtain ⟨b0,d2,H⟩:=H
       replace H:(some (a2,(b0 == 0)))=some (r1,r2):=H
       have d8:=Aside0.mk d2
       clear d2
       simp only [Option.some.injEq,Prod.mk.injEq] at H
       obtain ⟨rfl,rfl⟩:=H
       have b7:0≤(a2:Int):=of_decide_eq_true tz2
       have b8:a2 < (l0.length:Int):=of_decide_eq_true tz2
       obtain ⟨e7,d9,b9⟩:=Kd.at_string b5.out a2 b7 b8
       cases d9
       replace b9:=(HB.out.cell (World.block_lt_of_cell? w _ b9)).trans b9
       replace b7:=eq_true b7
       replace b8:=eq_true b8
       go_wp2_with (first|(go_at_call 9;(with_reducible refine (nomination_Compare.calls k1 (rdOf ByteArray.empty l0 a2) a1 b0 _ d8.out).mono ?_);rintro e e8 ⟨rfl,hb⟩;refine ap1 (below_step (belowP HB) hb) ?_;clear HB;intro HB))
       go_ret2
       exact ⟨rE,by repeat (first|(with_reducible first|exact HB.out|apply below_alloc|apply pw_below_drewN|apply below_drew1)|exact HB.out)⟩
      ·rw [if_neg b3] at H
       exact absurd H (by simp)
     ·rw [if_neg b2] at H
      exact absurd H (by simp)
    ·rw [if_neg a9] at H
     have d7:decide (a2 < (l0.length:Int))=false:=decide_eq_false a9
     clear a9
     simp only [Option.some.injEq,Prod.mk.injEq] at H
     obtain ⟨rfl,rfl⟩:=H
     go_wp2
     go_ret2
     exact ⟨rE,by repeat (first|(with_reducible first|exact HB.out|apply below_alloc|apply pw_below_drewN|apply below_drew1)|exact HB.out)⟩
def nomination_put.j0:Nat→List ByteArray→ByteArray→Int→Bool→Option (List ByteArray)
 | 0,_,_,_,_=>none
 | k + 1,x0,x1,x5,d6=>if d6=true then (some x0) else ((slices_Clone_string_string.f x0).bind fun a3=>((slices_Insert_string_string.f a3 x5 (([x1]:List ByteArray))).bind fun a5=>(some a5)))
def nomination_put.f (k:Nat) (l0:List ByteArray) (a1:ByteArray):Option (List ByteArray):=(sBS.f k l0 a1).bind fun a7=>(if a7.2=true then (nomination_put.j0 k l0 a1 a7.1 true) else (nomination_put.j0 k l0 a1 a7.1 (decide ((l0.length:Int)≥40))))
theorem nomination_put.mono_l:∀ k,(∀ y0 y1 y2 y3,LeO (nomination_put.j0 k y0 y1 y2 y3) (nomination_put.j0 (k + 1) y0 y1 y2 y3))
 | 0=>fun _ _ _ _ r h=>by simp [nomination_put.j0] at h
 | k + 1=>by
  have b4:=nomination_put.mono_l k
  ·intro y0 y1 y2 y3
   unfold nomination_put.j0
   repeat' first
   | (with_reducible exact b4 _ _ _ _)
   | (with_reducible apply sBS.mono)
   | (with_reducible exact LeO.refl _)
   | (with_reducible exact LeO.none _)
   | (with_reducible refine LeO.ite ?_ ?_)
   | (with_reducible refine LeO.bind ?_ (fun _=>?_))
theorem nomination_put.mono:∀ a0 a1 k,LeO (nomination_put.f k a0 a1) (nomination_put.f (k + 1) a0 a1):=by
 intro a0 a1 k
 have b4:=nomination_put.mono_l k
 unfold nomination_put.f
 repeat' first
   | (with_reducible exact b4 _ _ _ _)
   | (with_reducible apply sBS.mono)
   | (with_reducible exact LeO.refl _)
   | (with_reducible exact LeO.none _)
   | (with_reducible refine LeO.ite ?_ ?_)
   | (with_reducible refine LeO.bind ?_ (fun _=>?_))
set_option maxHeartbeats 8000000 in
set_option maxRecDepth 100000 in
theorem nomination_put.calls (k:Nat) (P0_:Nat→Prop) (A0:Option Addr) (c0:Nat) (l0:List ByteArray) (a1:ByteArray) (r:List ByteArray) (w:World) (d7:Kd.V Kd.string 9 w w.heap.size (fun k_=>P0_ k_) (.slice A0 l0.length c0) l0) (h:nomination_put.f k l0 a1=some r) :
  Calls Try.prog 26 #[.slice A0 l0.length c0,.string a1] w fun e w'=>∃ d1:Value,e = .returned (d1)∧Kd.V Kd.string 9 w' w.heap.size (fun k_=>(P0_ k_∨w.heap.size≤k_)) d1 r∧Below w.heap.size w w':=by
 have a8:=Aside0.mk (show Kd.V Kd.string 9 w w.heap.size (fun k_=>(P0_ k_∨w.heap.size≤k_)) (.slice A0 l0.length c0) l0 from Kd.V_mono d7 (fun k_ hk=>.inl hk))
 have HB:=Aside0.mk (Below.refl w.heap.size w)
 have H:((sBS.f k l0 a1).bind fun a7=>(if a7.2=true then (nomination_put.j0 k l0 a1 a7.1 true) else (nomination_put.j0 k l0 a1 a7.1 (decide ((l0.length:Int)≥40)))))=some r:=h
 clear h
 replace H:=Option.bind_eq_some_iff.mp H
 obtain ⟨⟨a6,b5⟩,d2,H⟩:=H
 replace H:(if b5=true then (nomination_put.j0 k l0 a1 a6 true) else (nomination_put.j0 k l0 a1 a6 (decide ((l0.length:Int)≥40))))=some r:=H
 have A3:=Aside0.mk d2
 clear d2
 have b6:=Aside0.mk H
 clear H
 go_enter Try.func26,Try.ntmps26
 go_upto_region 2 with (first|((with_reducible refine gate_callee (f:=44) rfl ?_);refine goesL_ (some 10) rfl rfl Try.func44 (by kernel_rfl) rfl #[.slice A0 l0.length c0,.string a1,.func (.func 9) #[] #[]] rfl tz0 ?_;(with_reducible refine (sBS.calls k _ _ l0 a1  a6 b5 _ ?side1 ?side2 A3.out).mono ?_);(case side1=>exact Kd.C_q ((Kd.V_reads' a8.out).2.2));(case side2=>exact (Kd.V_reads' a8.out).2.1);rintro e w5 ⟨rfl,hb⟩;refine ⟨_,rfl,?_⟩;refine ap2 (Kd.V_below (Kd.V_q a8.out) hb) (below_step (belowP HB) hb) ?_;clear a8 HB;intro a8 HB))
 (try simp only [Act.put,List.setIfInBounds_toArray,List.set_cons_zero,List.set_cons_succ])
 go_cut [18] (fun d8 wc=>∃ (kq:Nat) (b3:Bool),d8 = .bool b3∧Aside0 (nomination_put.j0 kq l0 a1 a6 b3=some r)∧Aside0 (kq≤k)∧Aside0 (Kd.V Kd.string 9 wc w.heap.size (fun k_=>(P0_ k_∨w.heap.size≤k_)) (.slice A0 l0.length c0) l0)∧Aside0 (Below w.heap.size w wc))
 case first=>
  have H:=b6.out
  clear b6
  by_cases c6:b5=true
  ·subst c6
   rw [if_pos rfl] at H
   have H':=Aside0.mk H
   clear H
   go_wp2
   go_meet
   case rel=>exact ⟨_,(true),tz3,H',⟨by first|omega|exact Nat.le_refl _⟩,⟨by refine Kd.V_q ?_;exact a8.out⟩,⟨by repeat (first|(with_reducible first|exact HB.out|apply below_alloc|apply pw_below_drewN|apply below_drew1)|exact HB.out)⟩⟩
  ·replace c6:=Bool.eq_false_iff.mpr c6
   subst c6
   rw [if_neg (show ¬ (false=true) by decide)] at H
   have H':=Aside0.mk H
   clear H
   go_wp2
   go_meet
   case rel=>exact ⟨_,(decide ((l0.length:Int)≥40)),tz3,H',⟨by first|omega|exact Nat.le_refl _⟩,⟨by refine Kd.V_q ?_;exact a8.out⟩,⟨by repeat (first|(with_reducible first|exact HB.out|apply below_alloc|apply pw_below_drewN|apply below_drew1)|exact HB.out)⟩⟩
 case rest=>
  clear b6
  try clear c6
  try clear HB
  obtain ⟨kq,b3,rfl,HA,HJ3,a2,HB⟩:=hcut
  cases kq with
  | zero=>exact absurd HA.out (by simp [nomination_put.j0])
  | succ e3=>
   have H:=HA.out
   clear HA
   simp only [nomination_put.j0] at H
   by_cases c7:b3=true
   ·subst c7
    rw [if_pos rfl] at H
    obtain rfl:=Option.some.inj H
    go_wp2
    go_ret
    exact ⟨_,rE,by refine Kd.V_q ?_;exact a2.out,by repeat (first|(with_reducible first|exact HB.out|apply below_alloc|apply pw_below_drewN|apply below_drew1)|exact HB.out)⟩
   ·replace c7:=Bool.eq_false_iff.mpr c7
    subst c7
    rw [if_neg (show ¬ (false=true) by decide)] at H
    replace H:=Option.bind_eq_some_iff.mp H
    obtain ⟨a3,d3,H⟩:=H
    replace H:((slices_Insert_string_string.f a3 a6 (([a1]:List ByteArray))).bind fun a5=>(some a5))=some r:=H
    have A8:=Aside0.mk d3
    clear d3
    obtain ⟨b0,b7⟩:∃ y_:List ByteArray,y_=(([a1]:List ByteArray)):=⟨_,rfl⟩
    replace H:((slices_Insert_string_string.f a3 a6 b0).bind fun a5=>(some a5))=some r:=rH b7 H
    have d4:=Aside0.mk b7
    clear b7
    replace H:=Option.bind_eq_some_iff.mp H
    obtain ⟨a5,d5,H⟩:=H
    replace H:(some a5)=some r:=H
    have A9:=Aside0.mk d5
    clear d5
    obtain rfl:=Option.some.inj H
    go_wp2_with (first|((with_reducible refine gate_callee (f:=21) rfl ?_);refine goesL_ (some 21) rfl rfl Try.func21 (by kernel_rfl) rfl #[.slice A0 l0.length c0] rfl tz0 ?_;(with_reducible refine (slices_Clone_string_string.calls _ _ l0 a3 _ ?side1 ?side2 A8.out).mono ?_);(case side1=>exact Kd.C_q ((Kd.V_reads' a2.out).2.2));(case side2=>exact (Kd.V_reads' a2.out).2.1);rintro e e4 ⟨e5,rfl,b1,hb⟩;refine ⟨_,rfl,?_⟩;refine ap3 (Kd.V_elder' (Kd.V_q a2.out) (Kd.R_base b1) hb) (Kd.R_lower (Kd.R_newM (M:=fun k_=>(w.heap.size≤k_)) b1 (below_size (belowP HB)) (fun k_ h_=>h_)) (below_size (belowP HB))) (below_step (belowP HB) hb) ?_;clear a2 HB;intro a2 a4 HB)|((with_reducible refine gate_dst (N:=24) rfl ?_);(try (refine gate_guard (by rfl) ?_;dsimp only));refine Kd.R_lit Kd.string _ 9 ?hg (N:=24) ?hd (xs:=([a1]:List ByteArray)) (inner:=[.string a1]) (ok:=fun _=>True) (okp:=fun _=>True) ?hr ?hp (fun _ hk=>hk) trivial (Below.refl _ _) (Nat.le_refl _) (by simp) ?_;(case hd=>rfl);(case hg=>rfl);(case hr=>first|(go_simp;done)|(go_simp;rfl));(case hp=>exact (Reps.one (show Kd.M Kd.string _ _ _ a1 [.string a1] from rfl) (Reps.none _ _)));intro e6 e7 a9 hb hg_ hnew_;clear hg_ hnew_;(first|rw [← d4.out] at a9|(simp only [Int.reduceToNat] at a9;rw [← d4.out] at a9));refine ap4 (Kd.V_elder' (Kd.V_q a2.out) (Kd.R_base a9) hb) (Kd.R_elder' (Kd.R_q a4.out) (Kd.R_base a9) hb) (Kd.R_lower (Kd.R_new' (Kd.R_newM (M:=fun k_=>(w.heap.size≤k_)) a9 (below_size (belowP HB)) (fun k_ h_=>h_)) (Kd.R_lt (Kd.R_q a4.out))) (below_size (belowP HB))) (below_step (belowP HB) hb) ?_;clear a2 a4 HB;intro a2 a4 b2 HB;clear hb a9;obtain ⟨b8,b9,d9⟩:=Kd.R_slice a4.out;subst d9;obtain ⟨c1,d0,e0⟩:=Kd.R_slice b2.out;subst e0)|((with_reducible refine gate_callee (f:=45) rfl ?_);refine goesL_ (some 25) rfl rfl Try.func45 (by kernel_rfl) rfl #[.slice b8 a3.length b9,.int .i64 a6,.slice c1 b0.length d0] rfl tz0 ?_;(with_reducible refine (slices_Insert_string_string.calls (fun k_=>some k_=(.slice b8 a3.length b9:Value).ownBlock) (.slice b8 a3.length b9) a3 a6 (fun k_=>some k_=(.slice c1 b0.length d0:Value).ownBlock) (.slice c1 b0.length d0) b0 a5 w _ ?side1 ?side2 ?side3 ?side4 ?side5 A9.out).mono ?_);(case side1=>repeat (first|(with_reducible first|exact HB.out|apply below_alloc|apply pw_below_drewN|apply below_drew1)|exact HB.out));(case side2=>exact Kd.R_tight rfl a4.out);(case side3=>exact fun k_ e_=>(a4.out.1 k_ e_.symm).2);(case side4=>exact Kd.R_tight rfl b2.out);(case side5=>exact fun k_ e_=>(b2.out.1 k_ e_.symm).2);rintro e e8 ⟨e1,rfl,b1,hb,hkp⟩;refine ⟨_,rfl,?_⟩;refine ap3 (Kd.V_mono (ok':=fun k_=>(P0_ k_∨w.heap.size≤k_)∧some k_≠(e1:Value).ownBlock) (Kd.V_keptB (a2.out) hkp (fun k_ hk_ hs_=>Or.elim hs_ (fun e_=>(hk_.1.2) e_) (fun e_=>(hk_.2) e_))) (fun k_ hk_=>⟨hk_.1.1.1,fun e_=>Or.elim (b1.1 k_ e_.symm) (fun hs_=>hk_.2.1 hs_) (fun hn_=>Nat.not_le.2 hk_.2.2 hn_)⟩)) (Kd.R_mono (ok':=fun k_=>(w.heap.size≤k_)) b1 (fun k_ hk_=>Or.elim hk_ (fun hs_=>Or.elim hs_ (fun hs_=>(a4.out.1 k_ (hs_).symm).1.1) (fun hs_=>(b2.out.1 k_ (hs_).symm).1.1)) (fun hn_=>(Nat.le_trans (below_size (belowP HB)) hn_)))) (hb) ?_;clear a2 HB a4 b2;intro a2 e2 HB))
    go_ret
    exact ⟨_,rE,Kd.V_mono (Kd.R_V (Kd.R_q e2.out)) (fun k_ hk=>by first|exact ⟨(.inr (hk.1)),hk.2⟩|exact (.inr (hk))),by repeat (first|(with_reducible first|exact HB.out|apply below_alloc|apply pw_below_drewN|apply below_drew1)|exact HB.out)⟩
mutual
def federated_copied.l0:Nat→List (S30)→Int→Int→Int→List Int→List (S30)→Option (Int × List Int × (List (S30)))
 | 0,_,_,_,_,_,_=>none
 | k + 1,g0,j8,e5,j9,k0,h2=>if e5 < j8 then (if 0≤e5 then (if e5 < (g0.length:Int) then ((federated_copied.f k ((rd_T30 g0 e5).f0) ((rd_T30 g0 e5).f1) ((rd_T30 g0 e5).f2)).bind fun h3=>(if h2.length < 2513169434916 then (federated_copied.l0 k g0 j8 (wrap64 (e5 + 1)) j9 k0 (h2 ++ [(⟨h3.1,h3.2.1,h3.2.2⟩:S30)])) else (none))) else (none)) else (none)) else (some (j9,k0,h2))
def federated_copied.f:Nat→Int→List Int→List (S30)→Option (Int × List Int × (List (S30)))
 | 0,_,_,_=>none
 | k + 1,b1,b6,a3=>if ([]:List Int).length + b6.length < 17592186044416 then (federated_copied.l0 k a3 (a3.length:Int) 0 b1 (([]:List Int) ++ b6) ([]:List (S30))) else (none)
end
theorem federated_copied.mono_l:∀ k,(∀ y0 y1 y2,LeO (federated_copied.f k y0 y1 y2) (federated_copied.f (k + 1) y0 y1 y2))∧(∀ y0 y1 y2 y3 y4 y5,LeO (federated_copied.l0 k y0 y1 y2 y3 y4 y5) (federated_copied.l0 (k + 1) y0 y1 y2 y3 y4 y5))
 | 0=>⟨fun _ _ _ r h=>by simp [federated_copied.f] at h,fun _ _ _ _ _ _ r h=>by simp [federated_copied.l0] at h⟩
 | k + 1=>by
  obtain ⟨g3,h4⟩:=federated_copied.mono_l k
  refine ⟨?_,?_⟩
  ·intro y0 y1 y2
   unfold federated_copied.f
   repeat' first
   | (with_reducible exact g3 _ _ _)
   | (with_reducible exact h4 _ _ _ _ _ _)
   | (with_reducible exact LeO.refl _)
   | (with_reducible exact LeO.none _)
   | (with_reducible refine LeO.ite ?_ ?_)
   | (with_reducible refine LeO.bind ?_ (fun _=>?_))
  ·intro y0 y1 y2 y3 y4 y5
   unfold federated_copied.l0
   repeat' first
   | (with_reducible exact g3 _ _ _)
   | (with_reducible exact h4 _ _ _ _ _ _)
   | (with_reducible exact LeO.refl _)
   | (with_reducible exact LeO.none _)
   | (with_reducible refine LeO.ite ?_ ?_)
   | (with_reducible refine LeO.bind ?_ (fun _=>?_))
theorem federated_copied.mono:∀ a0 a1 a2 k,LeO (federated_copied.f k a0 a1 a2) (federated_copied.f (k + 1) a0 a1 a2):=by
 intro a0 a1 a2 k
 obtain ⟨g3,h4⟩:=federated_copied.mono_l k
 exact g3 a0 a1 a2
def federated_copied.T1:Bool × List (List Nat × List Nat):=(true,[([],[]),([0],[0]),([],[]),([2],[2]),([3],[3]),([1,4],[1,4]),([],[]),([6,5,4,0,1,2,3,4,5,6],[5,6])])
def federated_copied.B1:List Nat:=[0,1,0,4,12,31,0,127]
theorem federated_copied.tab1:rtab .any (opsOf Try.f54 1)=federated_copied.T1:=by kernel_rfl
theorem federated_copied.bits1:waitsOk federated_copied.T1.2 federated_copied.B1=true:=by kernel_rfl
def federated_copied.T5:Bool × List (List Nat × List Nat):=(true,[([],[]),([0],[0]),([],[]),([2],[2]),([3],[3]),([1,4,3],[1,4]),([0,1,2,3,4,5],[]),([6,5,5,0,1,2,3,4,5],[5,6])])
def federated_copied.B5:List Nat:=[0,1,0,4,12,31,63,127]
theorem federated_copied.tab5:rtab .any (opsOf Try.f54 5)=federated_copied.T5:=by kernel_rfl
theorem federated_copied.bits5:waitsOk federated_copied.T5.2 federated_copied.B5=true:=by kernel_rfl
set_option maxHeartbeats 8000000 in
set_option maxRecDepth 100000 in
theorem federated_copied.calls (k:Nat):∀ (b1:Int) (d5:Option Addr) (d6:Nat) (b6:List Int) (e0:Option Addr) (d7:Nat) (a3:List (S30)) (r1:Int) (r2:List Int) (r3:List (S30)) (w:World) (h5:Kd.C (Kd.int .i64) w d5 b6.length b6) (h6:b6.length≤d6) (h7:Kd.C k30 w e0 a3.length a3) (h8:a3.length≤d7) (h:federated_copied.f k b1 b6 a3=some (r1,r2,r3)),
  Calls Try.prog 54 #[.agg #[.int .i64 b1,.slice d5 b6.length d6,.slice e0 a3.length d7]] w fun e w'=>∃ h9 k2:Value,e = .returned (.agg #[.int .i64 r1,h9,k2])∧Kd.R (Kd.int .i64) 3 w' w.heap.size (fun _=>True) h9 r2∧Kd.R k30 30 w' w.heap.size (fun k_=>some k_≠(h9:Value).ownBlock) k2 r3∧Below w.heap.size w w':=by
 induction k using Nat.strongRecOn with
 | _ k ih=>
 intro b1 d5 d6 b6 e0 d7 a3 r1 r2 r3 w h5 h6 h7 h8 h
 cases k with
 | zero=>exact absurd h (by simp [federated_copied.f])
 | succ k=>
 simp only [federated_copied.f] at h
 have hu30:=Try.underlying30
 have k3:=Aside0.mk h5
 have p8:=Aside0.mk h6
 clear h5 h6
 have m8:=Aside0.mk h7
 have p9:=Aside0.mk h8
 clear h7 h8
 have HB:=Aside0.mk (Below.refl w.heap.size w)
 have H:(if ([]:List Int).length + b6.length < 17592186044416 then (federated_copied.l0 k a3 (a3.length:Int) 0 b1 (([]:List Int) ++ b6) ([]:List (S30))) else (none))=some (r1,r2,r3):=h
 clear h
 by_cases c2:([]:List Int).length + b6.length < 17592186044416
 ·rw [if_pos c2] at H
  have LMc2:=Aside0.mk c2
  clear c2
  obtain ⟨b4,i0⟩:∃ y_:List Int,y_=(([]:List Int) ++ b6):=⟨_,rfl⟩
  replace H:(federated_copied.l0 k a3 (a3.length:Int) 0 b1 b4 ([]:List (S30)))=some (r1,r2,r3):=rH i0 H
  have k4:=Aside0.mk i0
  clear i0
  have H':=Aside0.mk H
  clear H
  go_enter Try.func54,Try.ntmps54
  try go_wp2_with (first|((with_reducible refine gate_dst (N:=1) rfl ?_);refine box_event ?hg (N:=1) ?hd (cs:=#[.int .i64 b1,.slice d5 b6.length d6,.slice e0 a3.length d7]) (t:=30) ?hr ?_;(case hd=>rfl);(case hg=>rfl);(case hr=>first|(go_simp;done)|(go_simp;rfl));intro b2 hg w3 hbox hb;refine ap4 (below_step (belowP HB) hb) (hbox) ((by rw [hg];exact (below_size (belowP HB)):w.heap.size≤b2)) ((by rw [hg];exact (below_size (belowP HB)):w.heap.size≤b2)) ?_;clear HB;intro HB a4 GW323 g4;clear hb hbox hg)|((with_reducible refine gate_dst (N:=2) rfl ?_);refine box_event ?hg (N:=2) ?hd (cs:=#[.int .i64 0,.slice none 0 0,.slice none 0 0]) (t:=30) ?hr ?_;(case hd=>rfl);(case hg=>rfl);(case hr=>first|(go_simp;done)|(go_simp;rfl));intro b3 hg w4 hbox hb;refine ap7 (blk_below (blkP a4) hb) (below_step (belowP HB) hb) (hbox) ((by rw [hg];exact (below_size (belowP HB)):w.heap.size≤b3)) ((by rw [hg];exact (below_size (belowP HB)):w.heap.size≤b3)) ((by rw [hg];exact Nat.ne_of_lt (blk_lt (blkP a4)):b2≠b3)) ((by rw [hg];exact Nat.ne_of_gt (blk_lt (blkP a4)):b3≠b2)) ?_;clear a4 HB;intro a4 HB a7 GW324 g5 k5 k6;clear hb hbox hg))
  refine ap3 (blk_drew a4.out) (blk_drew a7.out) (below_drew1 HB.out) ?_
  clear a4 a7 HB
  intro a4 a7 HB
  refine start_ (n:=8) (S:=fun w'=>w'.cell? ⟨b2,0,none⟩=some (.int .i64 b1)∧w'.cell? ⟨b2,1,none⟩=some (.slice d5 b6.length d6)∧w'.cell? ⟨b2,2,none⟩=some (.slice e0 a3.length d7)) (ds:=[]) #[false,false,false,false,false,false,false,false] (by kernel_rfl) rfl rfl ⟨(blk_cell a4.out 0).trans rfl,(blk_cell a4.out 1).trans rfl,(blk_cell a4.out 2).trans rfl⟩ (fun hHeld=>?_);refine with_tabW federated_copied.tab1 federated_copied.bits1 (fun HT_ HW_=>?_)
  generalize w4.drew=w5 at a4 a7 HB hHeld ⊢
  refine pure_ (i:=0) (N:=some 6) #[true,false,false,false,false,false,false,false] rfl rfl (any_of HT_.out (by kernel_rfl)) (fun _ _ _ h=>h) (Or.inl ⟨by rfl,tz4⟩) tz1 ?_
  refine pure_ (i:=2) (N:=some 8) #[true,false,true,false,false,false,false,false] rfl rfl (any_of HT_.out (by kernel_rfl)) (fun _ _ _ h=>h) (Or.inl ⟨by rfl,tz4⟩) tz1 ?_
  refine take_ (i:=1) (N:=some 7) #[true,true,true,false,false,false,false,false] rfl rfl (take_ofW HT_.out HW_.out (by kernel_rfl)) (fun _ _ _ h=>h) (Or.inl ⟨by rfl,(by rintro w' ⟨s0,s1,s2⟩;go_simp;with_reducible rfl)⟩) hHeld tz1 ?_
  refine take_ (i:=3) (N:=some 9) #[true,true,true,true,false,false,false,false] rfl rfl (take_ofW HT_.out HW_.out (by kernel_rfl)) (fun _ _ _ h=>h) (Or.inl ⟨by rfl,(by rintro w' ⟨s0,s1,s2⟩;go_simp;with_reducible rfl)⟩) hHeld tz1 ?_
  refine join_ (σ:=Value × Nat) 1 #[true,true,true,true,true,true,true,false] (fun s_=>[(10,s_.1),(3,.pointer (some ⟨s_.2,0,none⟩)),(11,.agg #[.int .i64 b1,s_.1,.slice none 0 0])]) (fun s_ w'=>(w'.cell? ⟨b2,0,none⟩=some (.int .i64 b1)∧w'.cell? ⟨b2,1,none⟩=some (.slice d5 b6.length d6)∧w'.cell? ⟨b2,2,none⟩=some (.slice e0 a3.length d7))∧(Kd.R (Kd.int .i64) 3 w' w.heap.size (fun _=>True) s_.1 b4)∧(w'.heap[b2]? = some (.cells #[.int .i64 b1,.slice d5 b6.length d6,.slice e0 a3.length d7] 30 (0,0)))∧(w'.heap[b3]? = some (.cells #[.int .i64 0,.slice none 0 0,.slice none 0 0] 30 (0,0)))∧(w'.heap[s_.2]? = some (.cells #[.int .i64 0,.slice none 0 0,.slice none 0 0] 30 (0,0)))∧(w.heap.size≤s_.2)∧(w.heap.size≤s_.2)∧(b2≠s_.2)∧(s_.2≠b2)∧(b3≠s_.2)∧(s_.2≠b3)∧(Below w.heap.size w w')) ?_ ?_
  rotate_left
  ·intro hCont
   refine two_ (i:=4) (j:=6) (Ni:=some 10) (Nj:=some 3) #[true,true,true,true,true,false,false,false] #[true,true,true,true,false,false,true,false] rfl rfl rfl rfl (two_of HT_.out (by kernel_rfl)) (by decide) (by decide) (fun K hK=>?_) (fun K hK=>?_)
   ·skip
    refine Kd.R_append_rows_step (Kd.int .i64) (w0:=w) w.heap.size (by rfl) (.const (.slice none 0 0)) (.tmp 9) 27 3 (.int .i64 0) 8 rfl Try.underlying27 info3 rfl (by decide) (by omega) (.slice none 0 0) ([]:List Int) b6 _ _ _ (fun _=>True) (fun _=>False) rfl rfl ?aO ?aR (fun _ _ h=>h) (fun _ h=>h.elim) ?aF ?aB ?aS ?aL ?_
    (case aR=>exact Kd.C_q (Kd.C_below k3.out HB.out))
    (case aB=>exact (belowP HB))
    (case aF=>exact (fun _ _=>trivial))
    (case aO=>exact ((Kd.R_nil _ _ _ _ (fun _=>True))))
    (case aS=>exact (below_size (belowP HB)))
    (case aL=>have:=LMc2.out;omega)
    intro i1 w6 ho hb hg hat
    rw [← k4.out] at ho
    refine ap4 (blk_grown (blkP a4) hg tz8) (blk_grown (blkP a7) hg tz8) (hb) (ho) ?_
    clear a4 a7 HB
    intro a4 a7 HB d8
    clear ho hb hg hat
    obtain ⟨m9,n0,k7⟩:=Kd.R_slice d8.out
    (first|subst k7|(injection k7 with f1_ f2_ f3_;have f4_:=f1_.symm;have f5_:=f3_.symm;clear f1_ f2_ f3_;subst f4_;subst f5_))
    refine hK.out _ _ ⟨(blk_cell a4.out 0).trans rfl,(blk_cell a4.out 1).trans rfl,(blk_cell a4.out 2).trans rfl⟩ (fun hHeld=>?_)
    clear hK K
    refine norm_ (a':=?_) ?_ ?_
    rotate_left
    ·show Act.put _ (some 10) _=_
     simp only [Act.put,List.setIfInBounds_toArray,List.set_cons_zero,List.set_cons_succ,i64_w,i32_w]
     rfl
    refine pure_ (i:=5) (N:=some 11) #[true,true,true,true,true,true,false,false] rfl rfl (any_of HT_.out (by kernel_rfl)) (fun _ _ _ h=>h) (Or.inl ⟨by rfl,tz4⟩) tz1 ?_
    refine one_ (i:=6) (N:=some 3) #[true,true,true,true,true,true,true,false] rfl rfl (one_of HT_.out (by kernel_rfl)) (by decide) (fun K hK=>?_)
    refine box_step ?hg (N:=3) ?hd (cs:=#[.int .i64 0,.slice none 0 0,.slice none 0 0]) (t:=30) ?hr ?_;(case hd=>rfl);(case hg=>rfl);(case hr=>first|(go_simp;done)|(go_simp;rfl))
    intro a8 hg w8 hbox hb
    refine ap11 (Kd.R_below (Kd.R_q d8.out) hb) (blk_below (blkP a4) hb) (blk_below (blkP a7) hb) (below_step (belowP HB) hb) (hbox) ((by rw [hg];exact (below_size (belowP HB)):w.heap.size≤a8)) ((by rw [hg];exact (below_size (belowP HB)):w.heap.size≤a8)) ((by rw [hg];exact Nat.ne_of_lt (blk_lt (blkP a4)):b2≠a8)) ((by rw [hg];exact Nat.ne_of_gt (blk_lt (blkP a4)):a8≠b2)) ((by rw [hg];exact Nat.ne_of_lt (blk_lt (blkP a7)):b3≠a8)) ((by rw [hg];exact Nat.ne_of_gt (blk_lt (blkP a7)):a8≠b3)) ?_
    clear d8 a4 a7 HB
    intro d8 a4 a7 HB a6 GW328 e4 b7 e1 d1 e3
    clear hb hbox hg
    refine hK.out _ _ ⟨(blk_cell a4.out 0).trans rfl,(blk_cell a4.out 1).trans rfl,(blk_cell a4.out 2).trans rfl⟩ (fun hHeld=>?_)
    clear hK K
    refine norm_ (a':=?_) ?_ ?_
    rotate_left
    ·show Act.put _ (some 3) _=_
     simp only [Act.put,List.setIfInBounds_toArray,List.set_cons_zero,List.set_cons_succ,i64_w,i32_w]
     rfl
    exact norm_ (by simp only [putAll,Act.put,List.setIfInBounds_toArray,List.set_cons_zero,List.set_cons_succ]) (hCont (.slice m9 b4.length n0,a8) _ ⟨hHeld,(Kd.R_q d8.out),(blkP a4),(blkP a7),(blkP a6),GW328.out,e4.out,b7.out,e1.out,d1.out,e3.out,(belowP HB)⟩)
   ·skip
    refine box_step ?hg (N:=3) ?hd (cs:=#[.int .i64 0,.slice none 0 0,.slice none 0 0]) (t:=30) ?hr ?_;(case hd=>rfl);(case hg=>rfl);(case hr=>first|(go_simp;done)|(go_simp;rfl))
    intro a8 hg w6 hbox hb
    refine ap10 (blk_below (blkP a4) hb) (blk_below (blkP a7) hb) (below_step (belowP HB) hb) (hbox) ((by rw [hg];exact (below_size (belowP HB)):w.heap.size≤a8)) ((by rw [hg];exact (below_size (belowP HB)):w.heap.size≤a8)) ((by rw [hg];exact Nat.ne_of_lt (blk_lt (blkP a4)):b2≠a8)) ((by rw [hg];exact Nat.ne_of_gt (blk_lt (blkP a4)):a8≠b2)) ((by rw [hg];exact Nat.ne_of_lt (blk_lt (blkP a7)):b3≠a8)) ((by rw [hg];exact Nat.ne_of_gt (blk_lt (blkP a7)):a8≠b3)) ?_
    clear a4 a7 HB
    intro a4 a7 HB a6 GW328 e4 b7 e1 d1 e3
    clear hb hbox hg
    refine hK.out _ _ ⟨(blk_cell a4.out 0).trans rfl,(blk_cell a4.out 1).trans rfl,(blk_cell a4.out 2).trans rfl⟩ (fun hHeld=>?_)
    clear hK K
    refine norm_ (a':=?_) ?_ ?_
    rotate_left
    ·show Act.put _ (some 3) _=_
     simp only [Act.put,List.setIfInBounds_toArray,List.set_cons_zero,List.set_cons_succ,i64_w,i32_w]
     rfl
    refine one_ (i:=4) (N:=some 10) #[true,true,true,true,true,false,true,false] rfl rfl (one_of HT_.out (by kernel_rfl)) (by decide) (fun K hK=>?_)
    refine Kd.R_append_rows_step (Kd.int .i64) (w0:=w) w.heap.size (by rfl) (.const (.slice none 0 0)) (.tmp 9) 27 3 (.int .i64 0) 8 rfl Try.underlying27 info3 rfl (by decide) (by omega) (.slice none 0 0) ([]:List Int) b6 _ _ _ (fun _=>True) (fun _=>False) rfl rfl ?aO ?aR (fun _ _ h=>h) (fun _ h=>h.elim) ?aF ?aB ?aS ?aL ?_
    (case aR=>exact Kd.C_q (Kd.C_below k3.out HB.out))
    (case aB=>exact (belowP HB))
    (case aF=>exact (fun _ _=>trivial))
    (case aO=>exact ((Kd.R_nil _ _ _ _ (fun _=>True))))
    (case aS=>exact (below_size (belowP HB)))
    (case aL=>have:=LMc2.out;omega)
    intro i1 w7 ho hb hg hat
    rw [← k4.out] at ho
    refine ap5 (blk_grown (blkP a4) hg tz8) (blk_grown (blkP a7) hg tz8) (blk_grown (blkP a6) hg tz8) (hb) (ho) ?_
    clear a4 a7 a6 HB
    intro a4 a7 a6 HB d8
    clear ho hb hg hat
    obtain ⟨n1,n2,k8⟩:=Kd.R_slice d8.out
    (first|subst k8|(injection k8 with f1_ f2_ f3_;have f4_:=f1_.symm;have f5_:=f3_.symm;clear f1_ f2_ f3_;subst f4_;subst f5_))
    refine hK.out _ _ ⟨(blk_cell a4.out 0).trans rfl,(blk_cell a4.out 1).trans rfl,(blk_cell a4.out 2).trans rfl⟩ (fun hHeld=>?_)
    clear hK K
    refine norm_ (a':=?_) ?_ ?_
    rotate_left
    ·show Act.put _ (some 10) _=_
     simp only [Act.put,List.setIfInBounds_toArray,List.set_cons_zero,List.set_cons_succ,i64_w,i32_w]
     rfl
    refine pure_ (i:=5) (N:=some 11) #[true,true,true,true,true,true,true,false] rfl rfl (any_of HT_.out (by kernel_rfl)) (fun _ _ _ h=>h) (Or.inl ⟨by rfl,tz4⟩) tz1 ?_
    exact norm_ (by simp only [putAll,Act.put,List.setIfInBounds_toArray,List.set_cons_zero,List.set_cons_succ]) (hCont (.slice n1 b4.length n2,a8) _ ⟨hHeld,(Kd.R_q d8.out),(blkP a4),(blkP a7),(blkP a6),GW328.out,e4.out,b7.out,e1.out,d1.out,e3.out,(belowP HB)⟩)
  rintro ⟨i1,a8⟩ w9 ⟨hS_,h0_,h1_,h2_,h3_,h4_,h5_,h6_,h7_,h8_,h9_,h10_⟩
  have e6:Aside0 (Kd.R (Kd.int .i64) 3 w9 w.heap.size (fun _=>True) i1 b4):=⟨h0_⟩
  have e7:Aside0 (w9.heap[b2]? = some (.cells #[.int .i64 b1,.slice d5 b6.length d6,.slice e0 a3.length d7] 30 (0,0))):=⟨h1_⟩
  have e8:Aside0 (w9.heap[b3]? = some (.cells #[.int .i64 0,.slice none 0 0,.slice none 0 0] 30 (0,0))):=⟨h2_⟩
  have e9:Aside0 (w9.heap[a8]? = some (.cells #[.int .i64 0,.slice none 0 0,.slice none 0 0] 30 (0,0))):=⟨h3_⟩
  have f3:Aside0 (w.heap.size≤a8):=⟨h4_⟩
  have f4:Aside0 (w.heap.size≤a8):=⟨h5_⟩
  have f5:Aside0 (b2≠a8):=⟨h6_⟩
  have k9:Aside0 (a8≠b2):=⟨h7_⟩
  have l3:Aside0 (b3≠a8):=⟨h8_⟩
  have l4:Aside0 (a8≠b3):=⟨h9_⟩
  have l5:Aside0 (Below w.heap.size w w9):=⟨h10_⟩
  clear a4 a7 HB h0_ h1_ h2_ h3_ h4_ h5_ h6_ h7_ h8_ h9_ h10_
  have d8:=e6
  have a4:=e7
  have a7:=e8
  have a6:=e9
  have GW328:=f3
  have e4:=f4
  have b7:=f5
  have e1:=k9
  have d1:=l3
  have e3:=l4
  have HB:=l5
  clear e6 e7 e8 e9 f3 f4 f5 k9 l3 l4 l5
  have hHeld:w9.cell? ⟨b2,0,none⟩=some (.int .i64 b1)∧w9.cell? ⟨b2,1,none⟩=some (.slice d5 b6.length d6)∧w9.cell? ⟨b2,2,none⟩=some (.slice e0 a3.length d7):=hS_
  obtain ⟨b9,c0,l6⟩:=Kd.R_slice d8.out
  (first|subst l6|(injection l6 with f1_ f2_ f3_;have f4_:=f1_.symm;have f5_:=f3_.symm;clear f1_ f2_ f3_;subst f4_;subst f5_))
  refine norm_ (a':=?_) ?_ ?_
  rotate_left
  ·simp only [putAll,Act.put,List.setIfInBounds_toArray,List.set_cons_zero,List.set_cons_succ]
   rfl
  refine one_ (i:=7) (N:=none) #[true,true,true,true,true,true,true,true] rfl rfl (one_of HT_.out (by kernel_rfl)) (by decide) (fun K hK=>?_)
  have q0:w9.cell? ⟨a8,0,none⟩=some (.int .i64 0):=(blk_cell a6.out 0).trans rfl
  have hfs11:=blk_frozen a6.out 0
  have hns11_0:=b7.out
  have hns11_1:=d1.out
  have hms11_0:=e1.out
  have hms11_1:=e3.out
  have q1:w9.cell? ⟨a8,1,none⟩=some (.slice none 0 0):=(blk_cell a6.out 1).trans rfl
  have hfs12:=blk_frozen a6.out 1
  have hns12_0:=b7.out
  have hns12_1:=d1.out
  have hms12_0:=e1.out
  have hms12_1:=e3.out
  have q2:w9.cell? ⟨a8,2,none⟩=some (.slice none 0 0):=(blk_cell a6.out 2).trans rfl
  have hfs13:=blk_frozen a6.out 2
  have hns13_0:=b7.out
  have hns13_1:=d1.out
  have hms13_0:=e1.out
  have hms13_1:=e3.out
  refine skip_ (w1:=?_) (by rfl) rfl ?_ ?_
  rotate_left
  ·go_simp
   rfl
  refine hK.out _ _ ⟨((cell_far (p:=⟨a8,_,none⟩) b7.out _).trans (((cell_far (p:=⟨a8,_,none⟩) b7.out _).trans (((cell_far (p:=⟨a8,_,none⟩) b7.out _).trans (hHeld.1)))))),((cell_far (p:=⟨a8,_,none⟩) b7.out _).trans (((cell_far (p:=⟨a8,_,none⟩) b7.out _).trans (((cell_far (p:=⟨a8,_,none⟩) b7.out _).trans (hHeld.2.1)))))),((cell_far (p:=⟨a8,_,none⟩) b7.out _).trans (((cell_far (p:=⟨a8,_,none⟩) b7.out _).trans (((cell_far (p:=⟨a8,_,none⟩) b7.out _).trans (hHeld.2.2))))))⟩ (fun hHeld=>?_)
  clear hK K
  refine done_ (done_of HT_.out (by kernel_rfl)) ?_
  have q3:=k5.out
  have q4:=k6.out
  have q5:=b7.out
  have q6:=e1.out
  obtain ⟨n3,n4,n5⟩:=cells3 a4.out
  obtain ⟨n6,n7,n8⟩:=froz3 a4.out
  try go_wp2
  go_loopg [15] k (fun kq n9 w'=>∃ (a5:Int) (d4:List (S30)) (e2:Value),n9 = .int .i64 a5∧Aside0 (federated_copied.l0 kq a3 (a3.length:Int) a5 b1 b4 d4=some (r1,r2,r3))∧Aside0 (kq≤k)∧Aside0 (Kd.R (Kd.int .i64) 3 w' w.heap.size (fun _=>True) (.slice b9 b4.length c0) b4)∧Aside0 (Kd.R k30 30 w' w.heap.size (fun k_=>some k_≠((.slice b9 b4.length c0):Value).ownBlock∧k_≠b2∧k_≠b3∧k_≠a8) e2 d4)∧Aside0 (w'.heap[b2]? = some (.cells #[.int .i64 b1,(.slice d5 b6.length d6),(.slice e0 a3.length d7)] 30 (0,0)))∧Aside0 (w'.heap[b3]? = some (.cells #[.int .i64 0,(.slice none 0 0),(.slice none 0 0)] 30 (0,0)))∧Aside0 (w'.heap[a8]? = some (.cells #[.int .i64 b1,(.slice b9 b4.length c0),e2] 30 (0,0)))∧Aside0 (Below w.heap.size w w'))
  case atStart=>exact ⟨(0),(([]:List (S30))),(.slice none 0 0),tz3,H',⟨Nat.le_refl _⟩,⟨by refine Kd.R_q ?_;exact Kd.R_mono (Kd.R_far (p:=⟨a8,2,none⟩) (Kd.R_far (p:=⟨a8,1,none⟩) (Kd.R_far (p:=⟨a8,0,none⟩) (Kd.R_types d8.out a6.out (by decide)) (fun _ hk=>hk.2) (.int .i64 b1)) (fun _ hk=>hk.2) (.slice b9 b4.length c0)) (fun _ hk=>hk.2) (.slice none 0 0)) (fun _ hk=>trivial)⟩,⟨by first|exact Kd.R_nil _ _ _ _ _|exact Kd.N_nil _ _ _ _ _|exact Kd.V_nil _ _ _ _ _|exact Kd.Q_nil _ _ _ _ _|exact Kd.S_nil _ _ _ _ _⟩,⟨by refine blkQ ?_;refine blk_far ?_ b7.out _;refine blkQ ?_;refine blk_far ?_ b7.out _;refine blkQ ?_;refine blk_far ?_ b7.out _;refine blkQ ?_;exact a4.out⟩,⟨by refine blkQ ?_;refine blk_far ?_ d1.out _;refine blkQ ?_;refine blk_far ?_ d1.out _;refine blkQ ?_;refine blk_far ?_ d1.out _;refine blkQ ?_;exact a7.out⟩,⟨by refine blkQ ?_;refine blk_put (cs:=#[.int .i64 b1,.slice b9 b4.length c0,.slice none 0 0]) ?_ 2 _ rfl;refine blkQ ?_;refine blk_put (cs:=#[.int .i64 b1,.slice none 0 0,.slice none 0 0]) ?_ 1 _ rfl;refine blkQ ?_;refine blk_put (cs:=#[.int .i64 0,.slice none 0 0,.slice none 0 0]) ?_ 0 _ rfl;refine blkQ ?_;exact a6.out⟩,⟨by repeat (first|(with_reducible first|exact HB.out|apply below_alloc|apply pw_below_drewN|apply below_drew1|refine below_set ?_ g4.out|refine below_set ?_ g5.out|refine below_set ?_ e4.out)|exact HB.out)⟩⟩
  case round=>
   clear H'
   try clear c2
   try clear n3
   try clear n4
   try clear n5
   try clear n6
   try clear n7
   try clear n8
   try clear a4
   try clear a7
   try clear a6
   try clear HB
   obtain ⟨a5,d4,e2,rfl,HA,i2,b8,b5,a4,a7,a6,HB⟩:=hrel
   cases gk with
   | zero=>exact absurd HA.out (by simp [federated_copied.l0])
   | succ k1=>
    have H:=HA.out
    clear HA
    simp only [federated_copied.l0] at H
    by_cases f6:a5 < (a3.length:Int)
    ·rw [if_pos f6] at H
     have o0:decide (a5 < (a3.length:Int))=true:=decide_eq_true f6
     clear f6
     by_cases g6:0≤a5
     ·rw [if_pos g6] at H
      have q7:decide (0≤a5)=true:=decide_eq_true g6
      clear g6
      by_cases g7:a5 < (a3.length:Int)
      ·rw [if_pos g7] at H
       have q8:decide (a5 < (a3.length:Int))=true:=decide_eq_true g7
       clear g7
       replace H:=Option.bind_eq_some_iff.mp H
       obtain ⟨⟨f7,f8,f9⟩,l7,H⟩:=H
       replace H:(if d4.length < 2513169434916 then (federated_copied.l0 k1 a3 (a3.length:Int) (wrap64 (a5 + 1)) b1 b4 (d4 ++ [(⟨f7,f8,f9⟩:S30)])) else (none))=some (r1,r2,r3):=H
       have o1:=Aside0.mk l7
       clear l7
       by_cases g8:d4.length < 2513169434916
       ·rw [if_pos g8] at H
        have LMc21:=Aside0.mk g8
        clear g8
        obtain ⟨g1,i3⟩:∃ y_:List (S30),y_=(d4 ++ [(⟨f7,f8,f9⟩:S30)]):=⟨_,rfl⟩
        replace H:(federated_copied.l0 k1 a3 (a3.length:Int) (wrap64 (a5 + 1)) b1 b4 g1)=some (r1,r2,r3):=rH i3 H
        have o2:=Aside0.mk i3
        clear i3
        have H':=Aside0.mk H
        clear H
        have i4:0≤(a5:Int):=of_decide_eq_true tz2
        have i5:a5 < (a3.length:Int):=of_decide_eq_true tz2
        obtain ⟨o3,c1,d0,d2,d3,o4,i6,i7,i8,l8,l9,m0,m1⟩:=at_T30 m8.out a5 i4 i5
        cases o4
        replace i6:=(HB.out.cell (World.block_lt_of_cell? w _ i6)).trans i6
        replace i7:=(HB.out.cell (World.block_lt_of_cell? w _ i7)).trans i7
        replace i8:=(HB.out.cell (World.block_lt_of_cell? w _ i8)).trans i8
        have o5:=Aside0.mk l9
        have o6:=Aside0.mk l8
        clear l9 l8
        have o7:=Aside0.mk m1
        have o8:=Aside0.mk m0
        clear m1 m0
        replace i4:=eq_true i4
        replace i5:=eq_true i5
        try go_wp2_with (first|((with_reducible refine gate_dst (N:=5) rfl ?_);refine box_event ?hg (N:=5) ?hd (cs:=#[.int .i64 0,.slice none 0 0,.slice none 0 0]) (t:=30) ?hr ?_;(case hd=>rfl);(case hg=>rfl);(case hr=>first|(go_simp;done)|(go_simp;rfl));intro a9 hg d9 hbox hb;refine ap15 (Kd.R_below (Kd.R_q b8.out) hb) (Kd.R_below (Kd.R_elderB (Kd.R_q b5.out) a9 (Nat.le_of_eq hg.symm)) hb) (blk_below (blkP a4) hb) (blk_below (blkP a7) hb) (blk_below (blkP a6) hb) (below_step (belowP HB) hb) (hbox) ((by rw [hg];exact (below_size (belowP HB)):w.heap.size≤a9)) ((by rw [hg];exact (below_size (belowP HB)):w.heap.size≤a9)) ((by rw [hg];exact Nat.ne_of_lt (blk_lt (blkP a4)):b2≠a9)) ((by rw [hg];exact Nat.ne_of_gt (blk_lt (blkP a4)):a9≠b2)) ((by rw [hg];exact Nat.ne_of_lt (blk_lt (blkP a7)):b3≠a9)) ((by rw [hg];exact Nat.ne_of_gt (blk_lt (blkP a7)):a9≠b3)) ((by rw [hg];exact Nat.ne_of_lt (blk_lt (blkP a6)):a8≠a9)) ((by rw [hg];exact Nat.ne_of_gt (blk_lt (blkP a6)):a9≠a8)) ?_;clear b8 b5 a4 a7 a6 HB;intro b8 b5 a4 a7 a6 HB b0 GW330 m2 g9 o9 h0 p0 g2 m3;clear hb hbox hg;have q9:=o9.out;have r0:=g9.out;have r4:=p0.out;have r5:=h0.out;have r6:=m3.out;have r7:=g2.out;have r8:d9.cell? ⟨a9,0,none⟩=some (.int .i64 0):=(blk_cell b0.out 0).trans rfl;have r9:d9.cell? ⟨a9,1,none⟩=some (.slice none 0 0):=(blk_cell b0.out 1).trans rfl;have s6:d9.cell? ⟨a9,2,none⟩=some (.slice none 0 0):=(blk_cell b0.out 2).trans rfl;have s7:=blk_frozen b0.out 0;have s8:=blk_frozen b0.out 1;have s9:=blk_frozen b0.out 2))
        have e6:Aside0 (Kd.R (Kd.int .i64) 3 (((d9.setCell ⟨a9,0,none⟩ (.int .i64 ((rd_T30 a3 a5).f0))).setCell ⟨a9,1,none⟩ (.slice c1 ((rd_T30 a3 a5).f1).length d0)).setCell ⟨a9,2,none⟩ (.slice d2 ((rd_T30 a3 a5).f2).length d3)) w.heap.size (fun _=>True) (.slice b9 b4.length c0) b4):=⟨by refine Kd.R_q ?_;exact Kd.R_mono (Kd.R_far (p:=⟨a9,2,none⟩) (Kd.R_far (p:=⟨a9,1,none⟩) (Kd.R_far (p:=⟨a9,0,none⟩) (Kd.R_types b8.out b0.out (by decide)) (fun _ hk=>hk.2) (.int .i64 ((rd_T30 a3 a5).f0))) (fun _ hk=>hk.2) (.slice c1 ((rd_T30 a3 a5).f1).length d0)) (fun _ hk=>hk.2) (.slice d2 ((rd_T30 a3 a5).f2).length d3)) (fun _ hk=>trivial)⟩
        have e7:Aside0 (Kd.R k30 30 (((d9.setCell ⟨a9,0,none⟩ (.int .i64 ((rd_T30 a3 a5).f0))).setCell ⟨a9,1,none⟩ (.slice c1 ((rd_T30 a3 a5).f1).length d0)).setCell ⟨a9,2,none⟩ (.slice d2 ((rd_T30 a3 a5).f2).length d3)) w.heap.size (fun k_=>some k_≠(.slice b9 b4.length c0:Value).ownBlock∧k_≠b2∧k_≠b3∧k_≠a8∧k_≠a9) e2 d4):=⟨by refine Kd.R_q ?_;exact Kd.R_mono (Kd.R_far (p:=⟨a9,2,none⟩) (Kd.R_far (p:=⟨a9,1,none⟩) (Kd.R_far (p:=⟨a9,0,none⟩) (Kd.R_mono b5.out (fun k_ hk=>(⟨hk,hk.2⟩:_∧k_≠a9))) (fun _ hk=>hk.2) (.int .i64 ((rd_T30 a3 a5).f0))) (fun _ hk=>hk.2) (.slice c1 ((rd_T30 a3 a5).f1).length d0)) (fun _ hk=>hk.2) (.slice d2 ((rd_T30 a3 a5).f2).length d3)) (fun _ hk=>⟨hk.1.1.1,⟨hk.1.1.2.1,⟨hk.1.1.2.2.1,⟨hk.1.1.2.2.2,hk.1.2⟩⟩⟩⟩)⟩
        have e8:Aside0 ((((d9.setCell ⟨a9,0,none⟩ (.int .i64 ((rd_T30 a3 a5).f0))).setCell ⟨a9,1,none⟩ (.slice c1 ((rd_T30 a3 a5).f1).length d0)).setCell ⟨a9,2,none⟩ (.slice d2 ((rd_T30 a3 a5).f2).length d3)).heap[b2]? = some (.cells #[.int .i64 b1,.slice d5 b6.length d6,.slice (some o3) a3.length d7] 30 (0,0))):=⟨by refine blkQ ?_;refine blk_far ?_ g9.out _;refine blkQ ?_;refine blk_far ?_ g9.out _;refine blkQ ?_;refine blk_far ?_ g9.out _;refine blkQ ?_;exact a4.out⟩
        have e9:Aside0 ((((d9.setCell ⟨a9,0,none⟩ (.int .i64 ((rd_T30 a3 a5).f0))).setCell ⟨a9,1,none⟩ (.slice c1 ((rd_T30 a3 a5).f1).length d0)).setCell ⟨a9,2,none⟩ (.slice d2 ((rd_T30 a3 a5).f2).length d3)).heap[b3]? = some (.cells #[.int .i64 0,.slice none 0 0,.slice none 0 0] 30 (0,0))):=⟨by refine blkQ ?_;refine blk_far ?_ h0.out _;refine blkQ ?_;refine blk_far ?_ h0.out _;refine blkQ ?_;refine blk_far ?_ h0.out _;refine blkQ ?_;exact a7.out⟩
        have f3:Aside0 ((((d9.setCell ⟨a9,0,none⟩ (.int .i64 ((rd_T30 a3 a5).f0))).setCell ⟨a9,1,none⟩ (.slice c1 ((rd_T30 a3 a5).f1).length d0)).setCell ⟨a9,2,none⟩ (.slice d2 ((rd_T30 a3 a5).f2).length d3)).heap[a8]? = some (.cells #[.int .i64 b1,.slice b9 b4.length c0,e2] 30 (0,0))):=⟨by refine blkQ ?_;refine blk_far ?_ g2.out _;refine blkQ ?_;refine blk_far ?_ g2.out _;refine blkQ ?_;refine blk_far ?_ g2.out _;refine blkQ ?_;exact a6.out⟩
        have f4:Aside0 ((((d9.setCell ⟨a9,0,none⟩ (.int .i64 ((rd_T30 a3 a5).f0))).setCell ⟨a9,1,none⟩ (.slice c1 ((rd_T30 a3 a5).f1).length d0)).setCell ⟨a9,2,none⟩ (.slice d2 ((rd_T30 a3 a5).f2).length d3)).heap[a9]? = some (.cells #[.int .i64 ((rd_T30 a3 a5).f0),.slice c1 ((rd_T30 a3 a5).f1).length d0,.slice d2 ((rd_T30 a3 a5).f2).length d3] 30 (0,0))):=⟨by refine blkQ ?_;refine blk_put (cs:=#[.int .i64 ((rd_T30 a3 a5).f0),.slice c1 ((rd_T30 a3 a5).f1).length d0,.slice none 0 0]) ?_ 2 _ rfl;refine blkQ ?_;refine blk_put (cs:=#[.int .i64 ((rd_T30 a3 a5).f0),.slice none 0 0,.slice none 0 0]) ?_ 1 _ rfl;refine blkQ ?_;refine blk_put (cs:=#[.int .i64 0,.slice none 0 0,.slice none 0 0]) ?_ 0 _ rfl;refine blkQ ?_;exact b0.out⟩
        have f5:Aside0 (Below w.heap.size w (((d9.setCell ⟨a9,0,none⟩ (.int .i64 ((rd_T30 a3 a5).f0))).setCell ⟨a9,1,none⟩ (.slice c1 ((rd_T30 a3 a5).f1).length d0)).setCell ⟨a9,2,none⟩ (.slice d2 ((rd_T30 a3 a5).f2).length d3))):=⟨by repeat (first|(with_reducible first|exact HB.out|apply below_alloc|apply pw_below_drewN|apply below_drew1|refine below_set ?_ g4.out|refine below_set ?_ g5.out|refine below_set ?_ e4.out|refine below_set ?_ m2.out)|exact HB.out)⟩
        (try clear b8)
        (try clear b5)
        (try clear a4)
        (try clear a7)
        (try clear a6)
        (try clear b0)
        (try clear HB)
        generalize (((d9.setCell ⟨a9,0,none⟩ (.int .i64 ((rd_T30 a3 a5).f0))).setCell ⟨a9,1,none⟩ (.slice c1 ((rd_T30 a3 a5).f1).length d0)).setCell ⟨a9,2,none⟩ (.slice d2 ((rd_T30 a3 a5).f2).length d3))=p1 at e6 e7 e8 e9 f3 f4 f5 ⊢
        have b8:=e6
        have b5:=e7
        have a4:=e8
        have a7:=e9
        have a6:=f3
        have b0:=f4
        have HB:=f5
        clear e6 e7 e8 e9 f3 f4 f5
        refine ap7 (Kd.R_drew b8.out) (Kd.R_drew b5.out) (blk_drew a4.out) (blk_drew a7.out) (blk_drew a6.out) (blk_drew b0.out) (below_drew1 HB.out) ?_
        clear b8 b5 a4 a7 a6 b0 HB
        intro b8 b5 a4 a7 a6 b0 HB
        refine start_ (n:=8) (S:=fun w'=>w'.cell? ⟨a8,0,none⟩=some (.int .i64 b1)∧w'.cell? ⟨a8,1,none⟩=some (.slice b9 b4.length c0)∧w'.cell? ⟨a8,2,none⟩=some (e2)∧w'.cell? ⟨a9,0,none⟩=some (.int .i64 ((rd_T30 a3 a5).f0))∧w'.cell? ⟨a9,1,none⟩=some (.slice c1 ((rd_T30 a3 a5).f1).length d0)∧w'.cell? ⟨a9,2,none⟩=some (.slice d2 ((rd_T30 a3 a5).f2).length d3)) (ds:=[7]) #[false,false,false,false,false,false,false,false] (by kernel_rfl) rfl rfl ⟨(blk_cell a6.out 0).trans rfl,(blk_cell a6.out 1).trans rfl,(blk_cell a6.out 2).trans rfl,(blk_cell b0.out 0).trans rfl,(blk_cell b0.out 1).trans rfl,(blk_cell b0.out 2).trans rfl⟩ (fun hHeld=>?_);refine with_tabW federated_copied.tab5 federated_copied.bits5 (fun HT_ HW_=>?_)
        generalize p1.drew=t0 at b8 b5 a4 a7 a6 b0 HB hHeld ⊢
        refine pure_ (i:=0) (N:=some 19) #[true,false,false,false,false,false,false,false] rfl rfl (any_of HT_.out (by kernel_rfl)) (fun _ _ _ h=>h) (Or.inl ⟨by rfl,tz4⟩) tz1 ?_
        refine take_ (i:=1) (N:=some 20) #[true,true,false,false,false,false,false,false] rfl rfl (take_ofW HT_.out HW_.out (by kernel_rfl)) (fun _ _ _ h=>h) (Or.inl ⟨by rfl,(by rintro w' ⟨s0,s1,s2,s3,s4,s5⟩;go_simp;with_reducible rfl)⟩) hHeld tz1 ?_
        refine take_ (i:=2) (N:=some 21) #[true,true,true,false,false,false,false,false] rfl rfl (take_ofW HT_.out HW_.out (by kernel_rfl)) (fun _ _ _ h=>h) (Or.inl ⟨by rfl,(by rintro w' ⟨s0,s1,s2,s3,s4,s5⟩;go_simp;with_reducible rfl)⟩) hHeld tz1 ?_
        refine one_ (i:=3) (N:=some 22) #[true,true,true,true,false,false,false,false] rfl rfl (one_of HT_.out (by kernel_rfl)) (by decide) (fun K hK=>?_)
        refine goes_ Try.func54 (by kernel_rfl) rfl #[.agg #[.int .i64 ((rd_T30 a3 a5).f0),.slice c1 ((rd_T30 a3 a5).f1).length d0,.slice d2 ((rd_T30 a3 a5).f2).length d3]] (by rfl) rfl rfl tz0 ?_
        with_reducible refine (ih k1 (by have:=i2.out;omega) ((rd_T30 a3 a5).f0) _ _ ((rd_T30 a3 a5).f1) _ _ ((rd_T30 a3 a5).f2) f7 f8 f9 _ ?side1 ?side2 ?side3 ?side4 o1.out).mono ?_
        (case side1=>exact Kd.C_q (Kd.C_below o5.out HB.out))
        (case side2=>exact o6.out)
        (case side3=>exact Kd.C_q (Kd.C_below o7.out HB.out))
        (case side4=>exact o8.out)
        rintro e t1 ⟨t2,t3,rfl,h1,i9,hb⟩
        refine ⟨_,rfl,?_⟩
        refine ap9 (Kd.R_elder' (Kd.R_q b8.out) (Kd.R_base h1) hb) (Kd.R_mono (Kd.R_told (Kd.R_told (Kd.R_old (Kd.R_q b5.out) hb) (Kd.R_base h1)) (Kd.R_base i9)) (fun _ h_=>h_.1)) (Kd.R_lower (Kd.R_new' h1 (Kd.R_lt (Kd.R_q b8.out))) (below_size (belowP HB))) (Kd.R_lower (Kd.R_newB (Kd.R_newB (Kd.R_newB (Kd.R_newB (Kd.R_new' (Kd.R_new' i9 (Kd.R_lt (Kd.R_q b8.out))) (Kd.R_lt (Kd.R_q b5.out))) (blkP a4)) (blkP a7)) (blkP a6)) (blkP b0)) (below_size (belowP HB))) (blk_below (blkP a4) hb) (blk_below (blkP a7) hb) (blk_below (blkP a6) hb) (blk_below (blkP b0) hb) (below_step (belowP HB) hb) ?_
        clear b8 b5 a4 a7 a6 b0 HB
        intro b8 b5 j2 j3 a4 a7 a6 b0 HB
        (try clear hb)
        (try clear hb2)
        (try clear hk)
        (try clear hi)
        (try clear h1)
        (try clear i9)
        obtain ⟨p2,p3,m4⟩:=Kd.R_slice j2.out
        (first|subst m4|(injection m4 with f1_ f2_ f3_;have f4_:=f1_.symm;have f5_:=f3_.symm;clear f1_ f2_ f3_;subst f4_;subst f5_))
        obtain ⟨p4,p5,m5⟩:=Kd.R_slice j3.out
        (first|subst m5|(injection m5 with f1_ f2_ f3_;have f4_:=f1_.symm;have f5_:=f3_.symm;clear f1_ f2_ f3_;subst f4_;subst f5_))
        refine hK.out _ _ ⟨(blk_cell a6.out 0).trans rfl,(blk_cell a6.out 1).trans rfl,(blk_cell a6.out 2).trans rfl,(blk_cell b0.out 0).trans rfl,(blk_cell b0.out 1).trans rfl,(blk_cell b0.out 2).trans rfl⟩ (fun hHeld=>?_)
        clear hK K
        refine norm_ (a':=?_) ?_ ?_
        rotate_left
        ·show Act.put _ (some 22) _=_
         simp only [Act.put,List.setIfInBounds_toArray,List.set_cons_zero,List.set_cons_succ,i64_w,i32_w]
         rfl
        refine one_ (i:=4) (N:=some 23) #[true,true,true,true,true,false,false,false] rfl rfl (one_of HT_.out (by kernel_rfl)) (by decide) (fun K hK=>?_)
        refine value_ (w1:=?_) (v:=?_) (by rfl) rfl ?_ ?_
        rotate_left 2
        ·go_simp
         constructor
         ·rfl
         ·rfl
        refine hK.out _ _ ⟨(blk_cell (blk_alloc a6.out _) 0).trans rfl,(blk_cell (blk_alloc a6.out _) 1).trans rfl,(blk_cell (blk_alloc a6.out _) 2).trans rfl,(blk_cell (blk_alloc b0.out _) 0).trans rfl,(blk_cell (blk_alloc b0.out _) 1).trans rfl,(blk_cell (blk_alloc b0.out _) 2).trans rfl⟩ (fun hHeld=>?_)
        clear hK K
        refine norm_ (a':=?_) ?_ ?_
        rotate_left
        ·show Act.put _ (some 23) _=_
         simp only [Act.put,List.setIfInBounds_toArray,List.set_cons_zero,List.set_cons_succ,i64_w,i32_w]
         rfl
        refine one_ (i:=5) (N:=some 24) #[true,true,true,true,true,true,false,false] rfl rfl (one_of HT_.out (by kernel_rfl)) (by decide) (fun K hK=>?_)
        refine Kd.R_append_step k30 (w0:=w) w.heap.size (by rfl) (.tmp 20) (.tmp 23) 28 30 (.agg #[(.int .i64 0),(.slice none 0 0),(.slice none 0 0)]) 56 rfl Try.underlying28 info30 rfl (by decide) (by omega) e2 d4 (⟨f7,f8,f9⟩:S30) [.int .i64 f7,.slice p2 f8.length p3,.slice p4 f9.length p5] (fun k_=>some k_≠(.slice b9 b4.length c0:Value).ownBlock∧k_≠b2∧k_≠b3∧k_≠a8∧k_≠a9) (fun k_=>((fun k_=>some k_≠(.slice b9 b4.length c0:Value).ownBlock∧k_≠b2∧k_≠b3∧k_≠a8∧k_≠a9)) k_∧some k_≠(e2:Value).ownBlock) rfl rfl ?aP (fun _ hk=>hk) ?aF ?aO ?aB ?aS ?aL ?_
        (case aP=>exact k30_mkM _ _ _ (⟨f7,f8,f9⟩:S30) (Kd.R_mono (Kd.R_types (Kd.R_types (Kd.R_types (Kd.R_types (Kd.R_apart' (j2.out) (Kd.R_typed b5.out) (by decide)) a4.out (by decide)) a7.out (by decide)) a6.out (by decide)) b0.out (by decide)) (fun k_ hk=>⟨⟨hk.1.1.1.1.1.2,⟨hk.1.1.1.2,⟨hk.1.1.2,⟨hk.1.2,hk.2⟩⟩⟩⟩,hk.1.1.1.1.2⟩)) (Kd.R_mono (j3.out) (fun k_ hk=>⟨⟨hk.1.1.1.1.1.2,⟨hk.1.1.1.2,⟨hk.1.1.2,⟨hk.1.2,hk.2⟩⟩⟩⟩,hk.1.1.1.1.2⟩)))
        (case aB=>exact (belowP HB))
        (case aF=>exact (fun k_ hk=>⟨Kd.fresh' (Kd.R_lt (Kd.R_q b8.out)) k_ hk,Kd.freshB (blkP a4) k_ hk,Kd.freshB (blkP a7) k_ hk,Kd.freshB (blkP a6) k_ hk,Kd.freshB (blkP b0) k_ hk⟩))
        (case aO=>exact (by refine Kd.R_q ?_;exact Kd.R_mono b5.out (fun _ hk=>⟨hk.1.1.1,⟨hk.1.1.2.1,⟨hk.1.1.2.2.1,⟨hk.1.1.2.2.2.1,hk.1.1.2.2.2.2⟩⟩⟩⟩)))
        (case aS=>exact (below_size (belowP HB)))
        (case aL=>have:=LMc21.out;omega)
        intro t4 p6 ho hb hg hat
        rw [← o2.out] at ho
        refine ap7 (Kd.R_over' (Kd.R_q b8.out) (Kd.R_typed (Kd.R_q b5.out)) (by decide) hg) (blk_grown (blkP a4) hg (Kd.R_away b5.out (fun _ hk=>by with_reducible first|exact hk.1.1.2.1|exact hk.1.1.1.2.1|exact hk.1.1.1.1.2.1|exact hk.1.1.1.1.1.2.1|exact hk.1.1.1.1.1.1.2.1))) (blk_grown (blkP a7) hg (Kd.R_away b5.out (fun _ hk=>by with_reducible first|exact hk.1.1.2.2.1|exact hk.1.1.1.2.2.1|exact hk.1.1.1.1.2.2.1|exact hk.1.1.1.1.1.2.2.1|exact hk.1.1.1.1.1.1.2.2.1))) (blk_grown (blkP a6) hg (Kd.R_away b5.out (fun _ hk=>by with_reducible first|exact hk.1.1.2.2.2.1|exact hk.1.1.1.2.2.2.1|exact hk.1.1.1.1.2.2.2.1|exact hk.1.1.1.1.1.2.2.2.1|exact hk.1.1.1.1.1.1.2.2.2.1))) (blk_grown (blkP b0) hg (Kd.R_away b5.out (fun _ hk=>by with_reducible first|exact hk.1.1.2.2.2.2|exact hk.1.1.1.2.2.2.2|exact hk.1.1.1.1.2.2.2.2|exact hk.1.1.1.1.1.2.2.2.2|exact hk.1.1.1.1.1.1.2.2.2.2))) (hb) (ho) ?_
        clear b8 a4 a7 a6 b0 HB b5 j2 j3
        intro b8 a4 a7 a6 b0 HB m6
        clear ho hb hg hat
        obtain ⟨j4,j5,m7⟩:=Kd.R_slice m6.out
        (first|subst m7|(injection m7 with f1_ f2_ f3_;have f4_:=f1_.symm;have f5_:=f3_.symm;clear f1_ f2_ f3_;subst f4_;subst f5_))
        refine hK.out _ _ ⟨(blk_cell a6.out 0).trans rfl,(blk_cell a6.out 1).trans rfl,(blk_cell a6.out 2).trans rfl,(blk_cell b0.out 0).trans rfl,(blk_cell b0.out 1).trans rfl,(blk_cell b0.out 2).trans rfl⟩ (fun hHeld=>?_)
        clear hK K
        refine norm_ (a':=?_) ?_ ?_
        rotate_left
        ·show Act.put _ (some 24) _=_
         simp only [Act.put,List.setIfInBounds_toArray,List.set_cons_zero,List.set_cons_succ,i64_w,i32_w]
         rfl
        refine pure_ (i:=6) (N:=some 25) #[true,true,true,true,true,true,true,false] rfl rfl (any_of HT_.out (by kernel_rfl)) (fun _ _ _ h=>h) (Or.inl ⟨by rfl,tz4⟩) tz1 ?_
        refine last_ (i:=7) (N:=none) #[true,true,true,true,true,true,true,true] rfl rfl (one_of HT_.out (by kernel_rfl)) (by decide) (fun K hK=>?_)
        have t5:p6.cell? ⟨a8,2,none⟩=some (e2):=(blk_cell a6.out 2).trans rfl
        have hfs34:=blk_frozen a6.out 2
        have hns34_0:=b7.out
        have hns34_1:=d1.out
        have hns34_3:=m3.out
        have hms34_0:=e1.out
        have hms34_1:=e3.out
        have hms34_3:=g2.out
        refine skip_ (w1:=?_) (by rfl) rfl ?_ ?_
        rotate_left
        ·go_simp
         rfl
        refine hK.out _ _ ?_
        clear hK K
        refine done_ (done_of HT_.out (by kernel_rfl)) ?_
        try go_wp2
        go_roundg k1
        case measure=>have:=i2.out;omega
        case rel=>exact ⟨(wrap64 (a5 + 1)),(g1),(.slice j4 g1.length j5),tz3,H',⟨by have:=i2.out;omega⟩,⟨by refine Kd.R_q ?_;exact Kd.R_mono (Kd.R_far (p:=⟨a8,2,none⟩) (Kd.R_types b8.out a6.out (by decide)) (fun _ hk=>hk.2) (.slice j4 g1.length j5)) (fun _ hk=>trivial)⟩,⟨by refine Kd.R_q ?_;exact Kd.R_mono (Kd.R_far (p:=⟨a8,2,none⟩) (Kd.R_mono m6.out (fun k_ hk=>(⟨hk,hk.2.2.2.1⟩:_∧k_≠a8))) (fun _ hk=>hk.2) (.slice j4 g1.length j5)) (fun _ hk=>⟨hk.1.1,⟨hk.1.2.1,⟨hk.1.2.2.1,hk.1.2.2.2.1⟩⟩⟩)⟩,⟨by refine blkQ ?_;refine blk_far ?_ b7.out _;refine blkQ ?_;exact a4.out⟩,⟨by refine blkQ ?_;refine blk_far ?_ d1.out _;refine blkQ ?_;exact a7.out⟩,⟨by refine blkQ ?_;refine blk_put (cs:=#[.int .i64 b1,.slice b9 b4.length c0,e2]) ?_ 2 _ rfl;refine blkQ ?_;exact a6.out⟩,⟨by repeat (first|(with_reducible first|exact HB.out|apply below_alloc|apply pw_below_drewN|apply below_drew1|refine below_set ?_ g4.out|refine below_set ?_ g5.out|refine below_set ?_ e4.out|refine below_set ?_ m2.out)|exact HB.out)⟩⟩
       ·rw [if_neg g8] at H
        exact absurd H (by simp)
      ·rw [if_neg g7] at H
       exact absurd H (by simp)
     ·rw [if_neg g6] at H
      exact absurd H (by simp)
    ·rw [if_neg f6] at H
     have o0:decide (a5 < (a3.length:Int))=false:=decide_eq_false f6
     clear f6
     simp only [Option.some.injEq,Prod.mk.injEq] at H
     obtain ⟨rfl,rfl,rfl⟩:=H
     have t6:=e1.out
     have t7:=b7.out
     have t8:=e3.out
     have t9:=d1.out
     obtain ⟨u0,u1,u2⟩:=cells3 a6.out
     obtain ⟨u3,u4,u5⟩:=froz3 a6.out
     have u6:=k6.out
     have u7:=k5.out
     obtain ⟨u9,v0,v1⟩:=cells3 a7.out
     obtain ⟨v2,v3,v4⟩:=froz3 a7.out
     obtain ⟨j6,j7,p7⟩:=Kd.R_slice b5.out
     subst p7
     go_wp2
     refine bodyPost_ret (results_cell_row rfl _ _ b3 30 #[.int .i64 b1,.slice b9 b4.length c0,.slice j6 d4.length j7] (0,0) _ rfl (by refine blkQ ?_;refine blk_put (cs:=#[.int .i64 b1,.slice b9 b4.length c0,.slice none 0 0]) ?_ 2 _ rfl;refine blkQ ?_;refine blk_put (cs:=#[.int .i64 b1,.slice none 0 0,.slice none 0 0]) ?_ 1 _ rfl;refine blkQ ?_;refine blk_put (cs:=#[.int .i64 0,.slice none 0 0,.slice none 0 0]) ?_ 0 _ rfl;refine blkQ ?_;exact a7.out) Try.underlying30 rfl (by kernel_rfl)) rfl ?_
     exact ⟨_,_,rE,by refine Kd.R_q ?_;exact Kd.R_mono (Kd.R_far (p:=⟨b3,2,none⟩) (Kd.R_far (p:=⟨b3,1,none⟩) (Kd.R_far (p:=⟨b3,0,none⟩) (Kd.R_types b8.out a7.out (by decide)) (fun _ hk=>hk.2) (.int .i64 b1)) (fun _ hk=>hk.2) (.slice b9 b4.length c0)) (fun _ hk=>hk.2) (.slice j6 d4.length j7)) (fun _ hk=>trivial),by refine Kd.R_q ?_;exact Kd.R_mono (Kd.R_far (p:=⟨b3,2,none⟩) (Kd.R_far (p:=⟨b3,1,none⟩) (Kd.R_far (p:=⟨b3,0,none⟩) (Kd.R_mono b5.out (fun k_ hk=>(⟨hk,hk.2.2.1⟩:_∧k_≠b3))) (fun _ hk=>hk.2) (.int .i64 b1)) (fun _ hk=>hk.2) (.slice b9 b4.length c0)) (fun _ hk=>hk.2) (.slice j6 d4.length j7)) (fun _ hk=>hk.1.1),by repeat (first|(with_reducible first|exact HB.out|apply below_alloc|apply pw_below_drewN|apply below_drew1|refine below_set ?_ g4.out|refine below_set ?_ g5.out|refine below_set ?_ e4.out)|exact HB.out)⟩
 ·rw [if_neg c2] at H
  exact absurd H (by simp)
def federated_node.f (a0:Int):Option (Bool):=if a0≥0 then (some (decide (a0 < 10))) else (some false)
set_option maxHeartbeats 8000000 in
set_option maxRecDepth 100000 in
theorem federated_node.calls (a0:Int) (r:Bool) (w:World) (h:federated_node.f a0=some r) :
  Calls Try.prog 55 #[.int .i64 a0] w fun e w'=>e = .returned (.bool r)∧Drawn0 w w':=by
 have H:(if a0≥0 then (some (decide (a0 < 10))) else (some false))=some r:=h
 clear h
 by_cases c2:a0≥0
 ·rw [if_pos c2] at H
  have a1:decide (0≤a0)=true:=decide_eq_true c2
  clear c2
  obtain rfl:=Option.some.inj H
  go_enter Try.func55,Try.ntmps55
  go_wp2
  go_ret
  exact ⟨by first|rfl|(simp;done)|(simp [*];done),by repeat (first|exact Drawn0.refl _|apply Drawn0.step)⟩
 ·rw [if_neg c2] at H
  have a1:decide (0≤a0)=false:=decide_eq_false c2
  clear c2
  obtain rfl:=Option.some.inj H
  go_enter Try.func55,Try.ntmps55
  go_wp2
  go_ret
  exact ⟨by first|rfl|(simp;done)|(simp [*];done),by repeat (first|exact Drawn0.refl _|apply Drawn0.step)⟩
def claims_Compare.f (k:Nat) (b1:Int) (a9:Int) (b2:Int) (b0:Int):Option (Int):=(cmp_Compare_int.f b1 b2).bind fun a7=>((cmp_Compare_int.f a9 b0).bind fun a6=>((cmp_Or_int.f k (([a7,a6]:List Int))).bind fun a8=>(some a8)))
theorem claims_Compare.mono:∀ a0 a1 a2 a3 k,LeO (claims_Compare.f k a0 a1 a2 a3) (claims_Compare.f (k + 1) a0 a1 a2 a3):=by
 intro a0 a1 a2 a3 k
 unfold claims_Compare.f
 repeat' first
   | (with_reducible apply cmp_Or_int.mono)
   | (with_reducible exact LeO.refl _)
   | (with_reducible exact LeO.none _)
   | (with_reducible refine LeO.ite ?_ ?_)
   | (with_reducible refine LeO.bind ?_ (fun _=>?_))
def claims_Compare.T1:Bool × List (List Nat × List Nat):=(true,[([],[]),([0],[0]),([],[]),([2],[2]),([1,3],[1,3]),([],[]),([5],[5]),([],[]),([7],[7]),([6,8,4],[6,8]),([4,9],[4,9]),([10,9],[10]),([11,11,0,1,2,3,4,5,6,7,8,9,10,11],[11])])
def claims_Compare.B1:List Nat:=[0,1,0,4,15,0,32,0,128,511,1023,2047,4095]
theorem claims_Compare.tab1:rtab .any (opsOf Try.f85 1)=claims_Compare.T1:=by kernel_rfl
theorem claims_Compare.bits1:waitsOk claims_Compare.T1.2 claims_Compare.B1=true:=by kernel_rfl
set_option maxHeartbeats 8000000 in
set_option maxRecDepth 100000 in
theorem claims_Compare.calls (k:Nat) (b1:Int) (a9:Int) (b2:Int) (b0:Int) (r:Int) (w:World) (h:claims_Compare.f k b1 a9 b2 b0=some r) :
  Calls Try.prog 85 #[.agg #[.int .i64 b1,.int .i64 a9],.agg #[.int .i64 b2,.int .i64 b0]] w fun e w'=>e = .returned (.int .i64 r)∧Below w.heap.size w w':=by
 have hu117:=Try.underlying117
 have HB:=Aside0.mk (Below.refl w.heap.size w)
 have H:((cmp_Compare_int.f b1 b2).bind fun a7=>((cmp_Compare_int.f a9 b0).bind fun a6=>((cmp_Or_int.f k (([a7,a6]:List Int))).bind fun a8=>(some a8))))=some r:=h
 clear h
 replace H:=Option.bind_eq_some_iff.mp H
 obtain ⟨a7,b9,H⟩:=H
 replace H:((cmp_Compare_int.f a9 b0).bind fun a6=>((cmp_Or_int.f k (([a7,a6]:List Int))).bind fun a8=>(some a8)))=some r:=H
 have A3:=Aside0.mk b9
 clear b9
 replace H:=Option.bind_eq_some_iff.mp H
 obtain ⟨a6,c0,H⟩:=H
 replace H:((cmp_Or_int.f k (([a7,a6]:List Int))).bind fun a8=>(some a8))=some r:=H
 have A4:=Aside0.mk c0
 clear c0
 obtain ⟨b6,b7⟩:∃ y_:List Int,y_=(([a7,a6]:List Int)):=⟨_,rfl⟩
 replace H:((cmp_Or_int.f k b6).bind fun a8=>(some a8))=some r:=rH b7 H
 have c1:=Aside0.mk b7
 clear b7
 replace H:=Option.bind_eq_some_iff.mp H
 obtain ⟨a8,d0,H⟩:=H
 replace H:(some a8)=some r:=H
 have A5:=Aside0.mk d0
 clear d0
 obtain rfl:=Option.some.inj H
 go_enter Try.func85,Try.ntmps85
 try go_wp2_with (first|((with_reducible refine gate_dst (N:=2) rfl ?_);refine box_event ?hg (N:=2) ?hd (cs:=#[.int .i64 b1,.int .i64 a9]) (t:=117) ?hr ?_;(case hd=>rfl);(case hg=>rfl);(case hr=>first|(go_simp;done)|(go_simp;rfl));intro b3 hg w6 hbox hb;refine ap4 (below_step (belowP HB) hb) (hbox) ((by rw [hg];exact (below_size (belowP HB)):w.heap.size≤b3)) ((by rw [hg];exact (below_size (belowP HB)):w.heap.size≤b3)) ?_;clear HB;intro HB a4 GW305 d2;clear hb hbox hg)|((with_reducible refine gate_dst (N:=3) rfl ?_);refine box_event ?hg (N:=3) ?hd (cs:=#[.int .i64 b2,.int .i64 b0]) (t:=117) ?hr ?_;(case hd=>rfl);(case hg=>rfl);(case hr=>first|(go_simp;done)|(go_simp;rfl));intro b4 hg w7 hbox hb;refine ap7 (blk_below (blkP a4) hb) (below_step (belowP HB) hb) (hbox) ((by rw [hg];exact (below_size (belowP HB)):w.heap.size≤b4)) ((by rw [hg];exact (below_size (belowP HB)):w.heap.size≤b4)) ((by rw [hg];exact Nat.ne_of_lt (blk_lt (blkP a4)):b3≠b4)) ((by rw [hg];exact Nat.ne_of_gt (blk_lt (blkP a4)):b4≠b3)) ?_;clear a4 HB;intro a4 HB a5 GW306 d3 d6 d7;clear hb hbox hg))
 refine ap3 (blk_drew a4.out) (blk_drew a5.out) (below_drew1 HB.out) ?_
 clear a4 a5 HB
 intro a4 a5 HB
 refine start_ (n:=13) (S:=fun w'=>w'.cell? ⟨b3,0,none⟩=some (.int .i64 b1)∧w'.cell? ⟨b3,1,none⟩=some (.int .i64 a9)∧w'.cell? ⟨b4,0,none⟩=some (.int .i64 b2)∧w'.cell? ⟨b4,1,none⟩=some (.int .i64 b0)) (ds:=[]) #[false,false,false,false,false,false,false,false,false,false,false,false,false] (by kernel_rfl) rfl rfl ⟨(blk_cell a4.out 0).trans rfl,(blk_cell a4.out 1).trans rfl,(blk_cell a5.out 0).trans rfl,(blk_cell a5.out 1).trans rfl⟩ (fun hHeld=>?_);refine with_tabW claims_Compare.tab1 claims_Compare.bits1 (fun HT_ HW_=>?_)
 generalize w7.drew=w8 at a4 a5 HB hHeld ⊢
 refine pure_ (i:=0) (N:=some 5) #[true,false,false,false,false,false,false,false,false,false,false,false,false] rfl rfl (any_of HT_.out (by kernel_rfl)) (fun _ _ _ h=>h) (Or.inl ⟨by rfl,tz4⟩) tz1 ?_
 refine pure_ (i:=2) (N:=some 7) #[true,false,true,false,false,false,false,false,false,false,false,false,false] rfl rfl (any_of HT_.out (by kernel_rfl)) (fun _ _ _ h=>h) (Or.inl ⟨by rfl,tz4⟩) tz1 ?_
 refine pure_ (i:=5) (N:=some 10) #[true,false,true,false,false,true,false,false,false,false,false,false,false] rfl rfl (any_of HT_.out (by kernel_rfl)) (fun _ _ _ h=>h) (Or.inl ⟨by rfl,tz4⟩) tz1 ?_
 refine pure_ (i:=7) (N:=some 12) #[true,false,true,false,false,true,false,true,false,false,false,false,false] rfl rfl (any_of HT_.out (by kernel_rfl)) (fun _ _ _ h=>h) (Or.inl ⟨by rfl,tz4⟩) tz1 ?_
 refine take_ (i:=1) (N:=some 6) #[true,true,true,false,false,true,false,true,false,false,false,false,false] rfl rfl (take_ofW HT_.out HW_.out (by kernel_rfl)) (fun _ _ _ h=>h) (Or.inl ⟨by rfl,tz6⟩) hHeld tz1 ?_
 refine take_ (i:=3) (N:=some 8) #[true,true,true,true,false,true,false,true,false,false,false,false,false] rfl rfl (take_ofW HT_.out HW_.out (by kernel_rfl)) (fun _ _ _ h=>h) (Or.inl ⟨by rfl,tz6⟩) hHeld tz1 ?_
 refine take_ (i:=6) (N:=some 11) #[true,true,true,true,false,true,true,true,false,false,false,false,false] rfl rfl (take_ofW HT_.out HW_.out (by kernel_rfl)) (fun _ _ _ h=>h) (Or.inl ⟨by rfl,tz6⟩) hHeld tz1 ?_
 refine take_ (i:=8) (N:=some 13) #[true,true,true,true,false,true,true,true,true,false,false,false,false] rfl rfl (take_ofW HT_.out HW_.out (by kernel_rfl)) (fun _ _ _ h=>h) (Or.inl ⟨by rfl,tz6⟩) hHeld tz1 ?_
 refine one_ (i:=4) (N:=some 9) #[true,true,true,true,true,true,true,true,true,false,false,false,false] rfl rfl (one_of HT_.out (by kernel_rfl)) (by decide) (fun K hK=>?_)
 refine goes_ Try.func15 (by kernel_rfl) rfl #[.int .i64 b1,.int .i64 b2] (by rfl) rfl rfl tz0 ?_
 with_reducible refine (cmp_Compare_int.calls b1 b2 a7 _ A3.out).mono ?_
 rintro e w' ⟨rfl,⟨nd,rfl⟩⟩
 refine ⟨_,rfl,?_⟩
 refine hK.out _ _ ⟨(blk_cell a4.out 0).trans rfl,(blk_cell a4.out 1).trans rfl,(blk_cell a5.out 0).trans rfl,(blk_cell a5.out 1).trans rfl⟩ (fun hHeld=>?_)
 clear hK K
 refine norm_ (a':=?_) ?_ ?_
 rotate_left
 ·show Act.put _ (some 9) _=_
  simp only [Act.put,List.setIfInBounds_toArray,List.set_cons_zero,List.set_cons_succ,i64_w,i32_w]
  rfl
 refine one_ (i:=9) (N:=some 14) #[true,true,true,true,true,true,true,true,true,true,false,false,false] rfl rfl (one_of HT_.out (by kernel_rfl)) (by decide) (fun K hK=>?_)
 refine goes_ Try.func15 (by kernel_rfl) rfl #[.int .i64 a9,.int .i64 b0] (by rfl) rfl rfl tz0 ?_
 with_reducible refine (cmp_Compare_int.calls a9 b0 a6 _ A4.out).mono ?_
 rintro e w' ⟨rfl,⟨nd,rfl⟩⟩
 refine ⟨_,rfl,?_⟩
 refine hK.out _ _ ⟨(blk_cell a4.out 0).trans rfl,(blk_cell a4.out 1).trans rfl,(blk_cell a5.out 0).trans rfl,(blk_cell a5.out 1).trans rfl⟩ (fun hHeld=>?_)
 clear hK K
 refine norm_ (a':=?_) ?_ ?_
 rotate_left
 ·show Act.put _ (some 14) _=_
  simp only [Act.put,List.setIfInBounds_toArray,List.set_cons_zero,List.set_cons_succ,i64_w,i32_w]
  rfl
 refine one_ (i:=10) (N:=some 15) #[true,true,true,true,true,true,true,true,true,true,true,false,false] rfl rfl (one_of HT_.out (by kernel_rfl)) (by decide) (fun K hK=>?_)
 refine Kd.R_lit_step (Kd.int .i64) _ 3 ?hg (N:=15) ?hd (xs:=([a7,a6]:List Int)) (inner:=[.int .i64 a7,.int .i64 a6]) (ok:=fun _=>True) (okp:=fun _=>True) ?hr ?hp (fun _ hk=>hk) trivial (Below.refl _ _) (Nat.le_refl _) (by simp) ?_;(case hd=>rfl);(case hg=>rfl);(case hr=>first|(go_simp;done)|(go_simp;rfl));(case hp=>exact (Reps.one (show Kd.M (Kd.int .i64) _ _ _ a7 [.int .i64 a7] from rfl) (Reps.one (show Kd.M (Kd.int .i64) _ _ _ a6 [.int .i64 a6] from rfl) (Reps.none _ _))))
 intro d8 w9 b5 hb hg_ hnew_
 clear hg_ hnew_
 (first|rw [← c1.out] at b5|(simp only [Int.reduceToNat] at b5;rw [← c1.out] at b5))
 refine ap4 (Kd.R_lower b5 (below_size (belowP HB))) (blk_below (blkP a4) hb) (blk_below (blkP a5) hb) (below_step (belowP HB) hb) ?_
 clear a4 a5 HB
 intro b8 a4 a5 HB
 clear hb b5
 obtain ⟨d4,d5,d1⟩:=Kd.R_slice b8.out
 (first|subst d1|(injection d1 with f1_ f2_ f3_;have f4_:=f1_.symm;have f5_:=f3_.symm;clear f1_ f2_ f3_;subst f4_;subst f5_))
 refine hK.out _ _ ⟨(blk_cell a4.out 0).trans rfl,(blk_cell a4.out 1).trans rfl,(blk_cell a5.out 0).trans rfl,(blk_cell a5.out 1).trans rfl⟩ (fun hHeld=>?_)
 clear hK K
 refine norm_ (a':=?_) ?_ ?_
 rotate_left
 ·show Act.put _ (some 15) _=_
  simp only [Act.put,List.setIfInBounds_toArray,List.set_cons_zero,List.set_cons_succ,i64_w,i32_w]
  rfl
 refine one_ (i:=11) (N:=some 16) #[true,true,true,true,true,true,true,true,true,true,true,true,false] rfl rfl (one_of HT_.out (by kernel_rfl)) (by decide) (fun K hK=>?_)
 refine goes_ Try.func14 (by kernel_rfl) rfl #[.slice d4 b6.length d5] (by rfl) rfl rfl tz0 ?_
 with_reducible refine (cmp_Or_int.calls k _ _ b6 a8 _ ?side1 ?side2 A5.out).mono ?_
 (case side1=>exact Kd.C_q ((Kd.R_reads' b8.out).2.2))
 (case side2=>exact (Kd.R_reads' b8.out).2.1)
 rintro e w' ⟨rfl,⟨nd,rfl⟩⟩
 refine ⟨_,rfl,?_⟩
 refine hK.out _ _ ⟨(blk_cell a4.out 0).trans rfl,(blk_cell a4.out 1).trans rfl,(blk_cell a5.out 0).trans rfl,(blk_cell a5.out 1).trans rfl⟩ (fun hHeld=>?_)
 clear hK K
 refine norm_ (a':=?_) ?_ ?_
 rotate_left
 ·show Act.put _ (some 16) _=_
  simp only [Act.put,List.setIfInBounds_toArray,List.set_cons_zero,List.set_cons_succ,i64_w,i32_w]
  rfl
 refine pure_ (i:=12) (N:=some 4) #[true,true,true,true,true,true,true,true,true,true,true,true,true] rfl rfl (any_of HT_.out (by kernel_rfl)) (fun _ _ _ h=>h) (Or.inl ⟨by rfl,tz4⟩) tz1 ?_
 refine done_ (done_of HT_.out (by kernel_rfl)) ?_
 try go_wp2
 go_ret
 exact ⟨rE,by repeat (first|(with_reducible first|exact HB.out|apply below_alloc|apply pw_below_drewN|apply below_drew1|refine below_set ?_ d2.out|refine below_set ?_ d3.out)|exact HB.out)⟩
def claims_Valid.f (a0:Int) (a3:Int):Option (Bool):=if a0≥0 then (if a0 < 8 then (if a3≥0 then (some (decide (a3≤15))) else (some false)) else (some false)) else (some false)
set_option maxHeartbeats 8000000 in
set_option maxRecDepth 100000 in
theorem claims_Valid.calls (a0:Int) (a3:Int) (r:Bool) (w:World) (h:claims_Valid.f a0 a3=some r) :
  Calls Try.prog 84 #[.agg #[.int .i64 a0,.int .i64 a3]] w fun e w'=>e = .returned (.bool r)∧Below w.heap.size w w':=by
 have hu117:=Try.underlying117
 have HB:=Aside0.mk (Below.refl w.heap.size w)
 have H:(if a0≥0 then (if a0 < 8 then (if a3≥0 then (some (decide (a3≤15))) else (some false)) else (some false)) else (some false))=some r:=h
 clear h
 by_cases c2:a0≥0
 ·rw [if_pos c2] at H
  have a6:decide (0≤a0)=true:=decide_eq_true c2
  clear c2
  by_cases c3:a0 < 8
  ·rw [if_pos c3] at H
   have a7:decide (a0 < 8)=true:=decide_eq_true c3
   clear c3
   by_cases c4:a3≥0
   ·rw [if_pos c4] at H
    have a8:decide (0≤a3)=true:=decide_eq_true c4
    clear c4
    obtain rfl:=Option.some.inj H
    go_enter Try.func84,Try.ntmps84
    go_wp2_with (first|((with_reducible refine gate_dst (N:=1) rfl ?_);refine box_event ?hg (N:=1) ?hd (cs:=#[.int .i64 a0,.int .i64 a3]) (t:=117) ?hr ?_;(case hd=>rfl);(case hg=>rfl);(case hr=>first|(go_simp;done)|(go_simp;rfl));intro a1 hg w5 hbox hb;refine ap4 (below_step (belowP HB) hb) (hbox) ((by rw [hg];exact (below_size (belowP HB)):w.heap.size≤a1)) ((by rw [hg];exact (below_size (belowP HB)):w.heap.size≤a1)) ?_;clear HB;intro HB a2 GW304 a4;clear hb hbox hg;have a9:w5.cell? ⟨a1,0,none⟩=some (.int .i64 a0):=(blk_cell a2.out 0).trans rfl;have b0:w5.cell? ⟨a1,1,none⟩=some (.int .i64 a3):=(blk_cell a2.out 1).trans rfl;have b1:=blk_frozen a2.out 0;have b2:=blk_frozen a2.out 1))
    go_ret
    exact ⟨rE,by repeat (first|(with_reducible first|exact HB.out|apply below_alloc|apply pw_below_drewN|apply below_drew1|refine below_set ?_ a4.out)|exact HB.out)⟩
   ·rw [if_neg c4] at H
    have a8:decide (0≤a3)=false:=decide_eq_false c4
    clear c4
    obtain rfl:=Option.some.inj H
    go_enter Try.func84,Try.ntmps84
    go_wp2_with (first|((with_reducible refine gate_dst (N:=1) rfl ?_);refine box_event ?hg (N:=1) ?hd (cs:=#[.int .i64 a0,.int .i64 a3]) (t:=117) ?hr ?_;(case hd=>rfl);(case hg=>rfl);(case hr=>first|(go_simp;done)|(go_simp;rfl));intro a1 hg w7 hbox hb;refine ap4 (below_step (belowP HB) hb) (hbox) ((by rw [hg];exact (below_size (belowP HB)):w.heap.size≤a1)) ((by rw [hg];exact (below_size (belowP HB)):w.heap.size≤a1)) ?_;clear HB;intro HB a2 GW304 a4;clear hb hbox hg;have b3:w7.cell? ⟨a1,0,none⟩=some (.int .i64 a0):=(blk_cell a2.out 0).trans rfl;have b4:w7.cell? ⟨a1,1,none⟩=some (.int .i64 a3):=(blk_cell a2.out 1).trans rfl;have b5:=blk_frozen a2.out 0;have b6:=blk_frozen a2.out 1))
    go_ret
    exact ⟨rE,by repeat (first|(with_reducible first|exact HB.out|apply below_alloc|apply pw_below_drewN|apply below_drew1|refine below_set ?_ a4.out)|exact HB.out)⟩
  ·rw [if_neg c3] at H
   have a7:decide (a0 < 8)=false:=decide_eq_false c3
   clear c3
   obtain rfl:=Option.some.inj H
   go_enter Try.func84,Try.ntmps84
   go_wp2_with (first|((with_reducible refine gate_dst (N:=1) rfl ?_);refine box_event ?hg (N:=1) ?hd (cs:=#[.int .i64 a0,.int .i64 a3]) (t:=117) ?hr ?_;(case hd=>rfl);(case hg=>rfl);(case hr=>first|(go_simp;done)|(go_simp;rfl));intro a1 hg w9 hbox hb;refine ap4 (below_step (belowP HB) hb) (hbox) ((by rw [hg];exact (below_size (belowP HB)):w.heap.size≤a1)) ((by rw [hg];exact (below_size (belowP HB)):w.heap.size≤a1)) ?_;clear HB;intro HB a2 GW304 a4;clear hb hbox hg;have b7:w9.cell? ⟨a1,0,none⟩=some (.int .i64 a0):=(blk_cell a2.out 0).trans rfl;have b8:w9.cell? ⟨a1,1,none⟩=some (.int .i64 a3):=(blk_cell a2.out 1).trans rfl;have b9:=blk_frozen a2.out 0;have c0:=blk_frozen a2.out 1))
   go_ret
   exact ⟨rE,by repeat (first|(with_reducible first|exact HB.out|apply below_alloc|apply pw_below_drewN|apply below_drew1|refine below_set ?_ a4.out)|exact HB.out)⟩
 ·rw [if_neg c2] at H
  have a6:decide (0≤a0)=false:=decide_eq_false c2
  clear c2
  obtain rfl:=Option.some.inj H
  go_enter Try.func84,Try.ntmps84
  go_wp2_with (first|((with_reducible refine gate_dst (N:=1) rfl ?_);refine box_event ?hg (N:=1) ?hd (cs:=#[.int .i64 a0,.int .i64 a3]) (t:=117) ?hr ?_;(case hd=>rfl);(case hg=>rfl);(case hr=>first|(go_simp;done)|(go_simp;rfl));intro a1 hg a5 hbox hb;refine ap4 (below_step (belowP HB) hb) (hbox) ((by rw [hg];exact (below_size (belowP HB)):w.heap.size≤a1)) ((by rw [hg];exact (below_size (belowP HB)):w.heap.size≤a1)) ?_;clear HB;intro HB a2 GW304 a4;clear hb hbox hg;have c1:a5.cell? ⟨a1,0,none⟩=some (.int .i64 a0):=(blk_cell a2.out 0).trans rfl;have d0:a5.cell? ⟨a1,1,none⟩=some (.int .i64 a3):=(blk_cell a2.out 1).trans rfl;have d1:=blk_frozen a2.out 0;have d2:=blk_frozen a2.out 1))
  go_ret
  exact ⟨rE,by repeat (first|(with_reducible first|exact HB.out|apply below_alloc|apply pw_below_drewN|apply below_drew1|refine below_set ?_ a4.out)|exact HB.out)⟩
def claims_Plain.l0:Nat→List (S117)→List (S117)→Int→Int→Option (Bool)
 | 0,_,_,_,_=>none
 | k + 1,x0,x5,x6,x7=>if x7 < x6 then (if 0≤x7 then (if x7 < (x5.length:Int) then ((claims_Valid.f ((rd_T117 x5 x7).f0) ((rd_T117 x5 x7).f1)).bind fun d3=>(if d3=true then (if x7 > 0 then (if 0≤(wrap64 (x7 - 1)) then (if (wrap64 (x7 - 1)) < (x0.length:Int) then ((claims_Compare.f k ((rd_T117 x0 (wrap64 (x7 - 1))).f0) ((rd_T117 x0 (wrap64 (x7 - 1))).f1) ((rd_T117 x5 x7).f0) ((rd_T117 x5 x7).f1)).bind fun b0=>(if b0≥0 then (some false) else (claims_Plain.l0 k x0 x5 x6 (wrap64 (x7 + 1))))) else (none)) else (none)) else (claims_Plain.l0 k x0 x5 x6 (wrap64 (x7 + 1)))) else (some false))) else (none)) else (none)) else (some true)
def claims_Plain.f (k:Nat) (l0:List (S117)):Option (Bool):=claims_Plain.l0 k l0 l0 (l0.length:Int) 0
theorem claims_Plain.mono_l:∀ k,(∀ y0 y1 y2 y3,LeO (claims_Plain.l0 k y0 y1 y2 y3) (claims_Plain.l0 (k + 1) y0 y1 y2 y3))
 | 0=>fun _ _ _ _ r h=>by simp [claims_Plain.l0] at h
 | k + 1=>by
  have d5:=claims_Plain.mono_l k
  ·intro y0 y1 y2 y3
   unfold claims_Plain.l0
   repeat' first
   | (with_reducible exact d5 _ _ _ _)
   | (with_reducible apply claims_Compare.mono)
   | (with_reducible exact LeO.refl _)
   | (with_reducible exact LeO.none _)
   | (with_reducible refine LeO.ite ?_ ?_)
   | (with_reducible refine LeO.bind ?_ (fun _=>?_))
theorem claims_Plain.mono:∀ a0 k,LeO (claims_Plain.f k a0) (claims_Plain.f (k + 1) a0):=by
 intro a0 k
 have d5:=claims_Plain.mono_l k
 unfold claims_Plain.f
 repeat' first
   | (with_reducible exact d5 _ _ _ _)
   | (with_reducible apply claims_Compare.mono)
   | (with_reducible exact LeO.refl _)
   | (with_reducible exact LeO.none _)
   | (with_reducible refine LeO.ite ?_ ?_)
   | (with_reducible refine LeO.bind ?_ (fun _=>?_))
def claims_Plain.T4:Bool × List (List Nat × List Nat):=(true,[([],[]),([0],[0]),([1],[1]),([2,1],[2]),([3],[3]),([4,3],[3,4]),([5,3,3],[3,5]),([6],[6]),([6],[6]),([8,6],[6,8]),([7,9,6],[6,7,9]),([10,6],[6,10]),([6],[6]),([11,12,6,6],[6,11,12]),([13,6],[6,13]),([6,14,3],[3,6,14]),([3,15],[3,15])])
def claims_Plain.B4:List Nat:=[0,1,3,7,15,31,63,127,127,383,1023,2047,127,8191,16383,32767,65535]
theorem claims_Plain.tab4:rtab .any (opsOf Try.f66 4)=claims_Plain.T4:=by kernel_rfl
theorem claims_Plain.bits4:waitsOk claims_Plain.T4.2 claims_Plain.B4=true:=by kernel_rfl
set_option maxHeartbeats 8000000 in
set_option maxRecDepth 100000 in
theorem claims_Plain.calls (k:Nat) (A0:Option Addr) (c0:Nat) (l0:List (S117)) (r:Bool) (w:World) (d8:Kd.C k117 w A0 l0.length l0) (d9:l0.length≤c0) (h:claims_Plain.f k l0=some r) :
  Calls Try.prog 66 #[.slice A0 l0.length c0] w fun e w'=>e = .returned (.bool r)∧Below w.heap.size w w':=by
 have hu117:=Try.underlying117
 have b8:=Aside0.mk d8
 have f2:=Aside0.mk d9
 clear d8 d9
 have HB:=Aside0.mk (Below.refl w.heap.size w)
 have H:(claims_Plain.l0 k l0 l0 (l0.length:Int) 0)=some r:=h
 clear h
 have H':=Aside0.mk H
 clear H
 go_enter Try.func66,Try.ntmps66
 go_wp2
 go_loopg [7] k (fun kq v7 w'=>∃ (a1:Int),v7 = .int .i64 a1∧Aside0 (claims_Plain.l0 kq l0 l0 (l0.length:Int) a1=some r)∧Aside0 (kq≤k)∧Aside0 (Below w.heap.size w w'))
 case atStart=>exact ⟨(0),tz3,H',⟨Nat.le_refl _⟩,⟨by repeat (first|(with_reducible first|exact HB.out|apply below_alloc|apply pw_below_drewN|apply below_drew1)|exact HB.out)⟩⟩
 case round=>
  clear H'
  try clear HB
  obtain ⟨a1,rfl,HA,d4,HB⟩:=hrel
  cases gk with
  | zero=>exact absurd HA.out (by simp [claims_Plain.l0])
  | succ k1=>
   have H:=HA.out
   clear HA
   simp only [claims_Plain.l0] at H
   by_cases c2:a1 < (l0.length:Int)
   ·rw [if_pos c2] at H
    have e3:decide (a1 < (l0.length:Int))=true:=decide_eq_true c2
    clear c2
    by_cases c3:0≤a1
    ·rw [if_pos c3] at H
     have f3:decide (0≤a1)=true:=decide_eq_true c3
     clear c3
     by_cases c4:a1 < (l0.length:Int)
     ·rw [if_pos c4] at H
      have f4:decide (a1 < (l0.length:Int))=true:=decide_eq_true c4
      clear c4
      replace H:=Option.bind_eq_some_iff.mp H
      obtain ⟨d3,e0,H⟩:=H
      replace H:(if d3=true then (if a1 > 0 then (if 0≤(wrap64 (a1 - 1)) then (if (wrap64 (a1 - 1)) < (l0.length:Int) then ((claims_Compare.f k1 ((rd_T117 l0 (wrap64 (a1 - 1))).f0) ((rd_T117 l0 (wrap64 (a1 - 1))).f1) ((rd_T117 l0 a1).f0) ((rd_T117 l0 a1).f1)).bind fun b0=>(if b0≥0 then (some false) else (claims_Plain.l0 k1 l0 l0 (l0.length:Int) (wrap64 (a1 + 1))))) else (none)) else (none)) else (claims_Plain.l0 k1 l0 l0 (l0.length:Int) (wrap64 (a1 + 1)))) else (some false))=some r:=H
      have A5:=Aside0.mk e0
      clear e0
      by_cases c6:d3=true
      ·subst c6
       rw [if_pos rfl] at H
       by_cases c7:a1 > 0
       ·rw [if_pos c7] at H
        have e4:decide (0 < a1)=true:=decide_eq_true c7
        clear c7
        obtain ⟨ji8,hji8⟩:∃ j_:Int,(wrap64 (a1 - 1))=j_:=⟨_,rfl⟩
        replace H:(if 0≤(ji8) then (if (ji8) < (l0.length:Int) then ((claims_Compare.f k1 ((rd_T117 l0 (ji8)).f0) ((rd_T117 l0 (ji8)).f1) ((rd_T117 l0 a1).f0) ((rd_T117 l0 a1).f1)).bind fun b0=>(if b0≥0 then (some false) else (claims_Plain.l0 k1 l0 l0 (l0.length:Int) (wrap64 (a1 + 1))))) else (none)) else (none))=some r:=by first|(rw [hji8] at H;exact H)|(simp only [hji8] at H ⊢;exact H)
        (try rw [hji8] at A5)
        have hji8w:(IntKind.i64.wrap (a1 - 1))=ji8:=(i64_w _).trans hji8
        by_cases c9:0≤(ji8)
        ·rw [if_pos c9] at H
         have f5:decide (0≤(ji8))=true:=decide_eq_true c9
         clear c9
         by_cases c10:(ji8) < (l0.length:Int)
         ·rw [if_pos c10] at H
          have f6:decide ((ji8) < (l0.length:Int))=true:=decide_eq_true c10
          clear c10
          replace H:=Option.bind_eq_some_iff.mp H
          obtain ⟨b0,e1,H⟩:=H
          replace H:(if b0≥0 then (some false) else (claims_Plain.l0 k1 l0 l0 (l0.length:Int) (wrap64 (a1 + 1))))=some r:=H
          have e2:=Aside0.mk e1
          clear e1
          by_cases b9:b0≥0
          ·rw [if_pos b9] at H
           have e5:decide (0≤b0)=true:=decide_eq_true b9
           clear b9
           obtain rfl:=Option.some.inj H
           have a4:0≤(a1:Int):=of_decide_eq_true tz2
           have a5:a1 < (l0.length:Int):=of_decide_eq_true tz2
           obtain ⟨b1,b5,a6,a7⟩:=at_T117 b8.out a1 a4 a5
           cases b5
           replace a6:=(HB.out.cell (World.block_lt_of_cell? w _ a6)).trans a6
           replace a7:=(HB.out.cell (World.block_lt_of_cell? w _ a7)).trans a7
           replace a4:=eq_true a4
           replace a5:=eq_true a5
           try go_wp2_with (first|((with_reducible refine gate_dst (N:=4) rfl ?_);refine box_event ?hg (N:=4) ?hd (cs:=#[.int .i64 0,.int .i64 0]) (t:=117) ?hr ?_;(case hd=>rfl);(case hg=>rfl);(case hr=>first|(go_simp;done)|(go_simp;rfl));intro a3 hg c1 hbox hb;refine ap4 (below_step (belowP HB) hb) (hbox) ((by rw [hg];exact (below_size (belowP HB)):w.heap.size≤a3)) ((by rw [hg];exact (below_size (belowP HB)):w.heap.size≤a3)) ?_;clear HB;intro HB a2 GW314 b2;clear hb hbox hg;have f7:c1.cell? ⟨a3,0,none⟩=some (.int .i64 0):=(blk_cell a2.out 0).trans rfl;have f8:c1.cell? ⟨a3,1,none⟩=some (.int .i64 0):=(blk_cell a2.out 1).trans rfl;have f9:=blk_frozen a2.out 0;have g0:=blk_frozen a2.out 1))
           have a8:Aside0 (((c1.setCell ⟨a3,0,none⟩ (.int .i64 ((rd_T117 l0 a1).f0))).setCell ⟨a3,1,none⟩ (.int .i64 ((rd_T117 l0 a1).f1))).heap[a3]? = some (.cells #[.int .i64 ((rd_T117 l0 a1).f0),.int .i64 ((rd_T117 l0 a1).f1)] 117 (0,0))):=⟨by refine blkQ ?_;refine blk_put (cs:=#[.int .i64 ((rd_T117 l0 a1).f0),.int .i64 0]) ?_ 1 _ rfl;refine blkQ ?_;refine blk_put (cs:=#[.int .i64 0,.int .i64 0]) ?_ 0 _ rfl;refine blkQ ?_;exact a2.out⟩
           have a9:Aside0 (Below w.heap.size w ((c1.setCell ⟨a3,0,none⟩ (.int .i64 ((rd_T117 l0 a1).f0))).setCell ⟨a3,1,none⟩ (.int .i64 ((rd_T117 l0 a1).f1)))):=⟨by repeat (first|(with_reducible first|exact HB.out|apply below_alloc|apply pw_below_drewN|apply below_drew1|refine below_set ?_ b2.out)|exact HB.out)⟩
           (try clear a2)
           (try clear HB)
           generalize ((c1.setCell ⟨a3,0,none⟩ (.int .i64 ((rd_T117 l0 a1).f0))).setCell ⟨a3,1,none⟩ (.int .i64 ((rd_T117 l0 a1).f1)))=e6 at a8 a9 ⊢
           have a2:=a8
           have HB:=a9
           clear a8 a9
           refine ap2 (blk_drew a2.out) (below_drew1 HB.out) ?_
           clear a2 HB
           intro a2 HB
           have b6:0≤((ji8):Int):=of_decide_eq_true tz2
           have b7:(ji8) < (l0.length:Int):=of_decide_eq_true tz2
           obtain ⟨d6,d7,b3,b4⟩:=at_T117 b8.out (ji8) b6 b7
           have hw316_1:=b4
           have hw316_0:=b3
           obtain rfl:b1=d6:=(by injection d7)
           replace b3:=(HB.out.cell (World.block_lt_of_cell? w _ b3)).trans b3
           replace b4:=(HB.out.cell (World.block_lt_of_cell? w _ b4)).trans b4
           replace b6:=eq_true b6
           replace b7:=eq_true b7
           refine start_ (n:=17) (S:=fun w'=>w'.cell? ⟨a3,0,none⟩=some (.int .i64 ((rd_T117 l0 a1).f0))∧w'.cell? ⟨a3,1,none⟩=some (.int .i64 ((rd_T117 l0 a1).f1))∧w'.cell? (b1.add (((ji8)).toNat * 2))=some (.int .i64 ((rd_T117 l0 (ji8)).f0))∧w'.cell? ⟨(b1.add (((ji8)).toNat * 2)).block,(b1.add (((ji8)).toNat * 2)).off + 1,none⟩=some (.int .i64 ((rd_T117 l0 (ji8)).f1))) (ds:=[]) #[false,false,false,false,false,false,false,false,false,false,false,false,false,false,false,false,false] (by kernel_rfl) rfl rfl ⟨(blk_cell a2.out 0).trans rfl,(blk_cell a2.out 1).trans rfl,((HB.out.cell (World.block_lt_of_cell? w _ hw316_0)).trans hw316_0),((HB.out.cell (World.block_lt_of_cell? w _ hw316_1)).trans hw316_1)⟩ (fun hHeld=>?_);refine with_tabW claims_Plain.tab4 claims_Plain.bits4 (fun HT_ HW_=>?_)
           generalize e6.drew=g1 at a2 HB b3 b4 hHeld ⊢
           refine take_ (i:=0) (N:=some 12) #[true,false,false,false,false,false,false,false,false,false,false,false,false,false,false,false,false] rfl rfl (take_ofW HT_.out HW_.out (by kernel_rfl)) (fun _ _ _ h=>h) (Or.inl ⟨by rfl,tz6⟩) hHeld tz1 ?_
           refine one_ (i:=1) (N:=some 13) #[true,true,false,false,false,false,false,false,false,false,false,false,false,false,false,false,false] rfl rfl (one_of HT_.out (by kernel_rfl)) (by decide) (fun K hK=>?_)
           refine goes_ Try.func84 (by kernel_rfl) rfl #[.agg #[.int .i64 ((rd_T117 l0 a1).f0),.int .i64 ((rd_T117 l0 a1).f1)]] (by rfl) rfl rfl tz0 ?_
           with_reducible refine (claims_Valid.calls ((rd_T117 l0 a1).f0) ((rd_T117 l0 a1).f1) true _ A5.out).mono ?_
           rintro e g2 ⟨rfl,hb⟩
           refine ⟨_,rfl,?_⟩
           refine ap2 (blk_below (blkP a2) hb) (below_step (belowP HB) hb) ?_
           clear a2 HB
           intro a2 HB
           (try clear hb)
           (try clear hb2)
           (try clear hk)
           (try clear hi)
           refine hK.out _ _ ⟨(blk_cell a2.out 0).trans rfl,(blk_cell a2.out 1).trans rfl,((HB.out.cell (World.block_lt_of_cell? w _ hw316_0)).trans hw316_0),((HB.out.cell (World.block_lt_of_cell? w _ hw316_1)).trans hw316_1)⟩ (fun hHeld=>?_)
           clear hK K
           refine norm_ (a':=?_) ?_ ?_
           rotate_left
           ·show Act.put _ (some 13) _=_
            simp only [Act.put,List.setIfInBounds_toArray,List.set_cons_zero,List.set_cons_succ,i64_w,i32_w]
            rfl
           refine pure_ (i:=2) (N:=some 14) #[true,true,true,false,false,false,false,false,false,false,false,false,false,false,false,false,false] rfl rfl (any_of HT_.out (by kernel_rfl)) (fun _ _ _ h=>h) (Or.inl ⟨by rfl,tz4⟩) tz1 ?_
           refine pure_ (i:=3) (N:=some 15) #[true,true,true,true,false,false,false,false,false,false,false,false,false,false,false,false,false] rfl rfl (any_of HT_.out (by kernel_rfl)) (fun _ _ _ h=>h) (Or.inl ⟨by rfl,tz4⟩) tz1 ?_
           refine pure_ (i:=4) (N:=some 16) #[true,true,true,true,true,false,false,false,false,false,false,false,false,false,false,false,false] rfl rfl (any_of HT_.out (by kernel_rfl)) (fun _ _ _ h=>h) (Or.inl ⟨by rfl,tz4⟩) tz1 ?_
           refine pure_ (i:=5) (N:=some 17) #[true,true,true,true,true,true,false,false,false,false,false,false,false,false,false,false,false] rfl rfl (any_of HT_.out (by kernel_rfl)) (fun _ _ _ h=>h) (Or.inl ⟨by rfl,tz4⟩) tz1 ?_
           refine pure_ (i:=6) (N:=some 18) #[true,true,true,true,true,true,true,false,false,false,false,false,false,false,false,false,false] rfl rfl (any_of HT_.out (by kernel_rfl)) (fun _ _ _ h=>h) (Or.inl ⟨by rfl,tz4⟩) tz1 ?_
           refine pure_ (i:=7) (N:=some 19) #[true,true,true,true,true,true,true,true,false,false,false,false,false,false,false,false,false] rfl rfl (any_of HT_.out (by kernel_rfl)) (fun _ _ _ h=>h) (Or.inl ⟨by rfl,tz4⟩) tz1 ?_
           refine pure_ (i:=8) (N:=some 20) #[true,true,true,true,true,true,true,true,true,false,false,false,false,false,false,false,false] rfl rfl (any_of HT_.out (by kernel_rfl)) (fun _ _ _ h=>h) (Or.inl ⟨by rfl,tz4⟩) tz1 ?_
           refine pure_ (i:=9) (N:=some 21) #[true,true,true,true,true,true,true,true,true,true,false,false,false,false,false,false,false] rfl rfl (any_of HT_.out (by kernel_rfl)) (fun _ _ _ h=>h) (Or.inl ⟨by rfl,tz4⟩) tz1 ?_
           refine pure_ (i:=10) (N:=some 22) #[true,true,true,true,true,true,true,true,true,true,true,false,false,false,false,false,false] rfl rfl (any_of HT_.out (by kernel_rfl)) (fun _ _ _ h=>h) (Or.inl ⟨by rfl,tz4⟩) tz1 ?_
           refine take_ (i:=11) (N:=some 23) #[true,true,true,true,true,true,true,true,true,true,true,true,false,false,false,false,false] rfl rfl (take_ofW HT_.out HW_.out (by kernel_rfl)) (fun _ _ _ h=>h) (Or.inl ⟨by rfl,tz6⟩) hHeld tz1 ?_
           refine take_ (i:=12) (N:=some 24) #[true,true,true,true,true,true,true,true,true,true,true,true,true,false,false,false,false] rfl rfl (take_ofW HT_.out HW_.out (by kernel_rfl)) (fun _ _ _ h=>h) (Or.inl ⟨by rfl,tz6⟩) hHeld tz1 ?_
           refine one_ (i:=13) (N:=some 25) #[true,true,true,true,true,true,true,true,true,true,true,true,true,true,false,false,false] rfl rfl (one_of HT_.out (by kernel_rfl)) (by decide) (fun K hK=>?_)
           refine goes_ Try.func85 (by kernel_rfl) rfl #[.agg #[.int .i64 ((rd_T117 l0 (ji8)).f0),.int .i64 ((rd_T117 l0 (ji8)).f1)],.agg #[.int .i64 ((rd_T117 l0 a1).f0),.int .i64 ((rd_T117 l0 a1).f1)]] (by rfl) rfl rfl (by (try simp only [List.map_toArray,List.map_cons,List.map_nil]);first|done|(simp only [hji8];rfl)|rfl|(simp only [List.length_drop,List.length_take];rfl)) ?_
           with_reducible refine (claims_Compare.calls k1 ((rd_T117 l0 (ji8)).f0) ((rd_T117 l0 (ji8)).f1) ((rd_T117 l0 a1).f0) ((rd_T117 l0 a1).f1) b0 _ e2.out).mono ?_
           rintro e g3 ⟨rfl,hb⟩
           refine ⟨_,rfl,?_⟩
           refine ap2 (blk_below (blkP a2) hb) (below_step (belowP HB) hb) ?_
           clear a2 HB
           intro a2 HB
           (try clear hb)
           (try clear hb2)
           (try clear hk)
           (try clear hi)
           refine hK.out _ _ ⟨(blk_cell a2.out 0).trans rfl,(blk_cell a2.out 1).trans rfl,((HB.out.cell (World.block_lt_of_cell? w _ hw316_0)).trans hw316_0),((HB.out.cell (World.block_lt_of_cell? w _ hw316_1)).trans hw316_1)⟩ (fun hHeld=>?_)
           clear hK K
           refine norm_ (a':=?_) ?_ ?_
           rotate_left
           ·show Act.put _ (some 25) _=_
            simp only [Act.put,List.setIfInBounds_toArray,List.set_cons_zero,List.set_cons_succ,i64_w,i32_w]
            rfl
           refine pure_ (i:=14) (N:=some 26) #[true,true,true,true,true,true,true,true,true,true,true,true,true,true,true,false,false] rfl rfl (any_of HT_.out (by kernel_rfl)) (fun _ _ _ h=>h) (Or.inl ⟨by rfl,tz4⟩) tz1 ?_
           refine pure_ (i:=15) (N:=some 27) #[true,true,true,true,true,true,true,true,true,true,true,true,true,true,true,true,false] rfl rfl (any_of HT_.out (by kernel_rfl)) (fun _ _ _ h=>h) (Or.inl ⟨by rfl,tz4⟩) tz1 ?_
           refine pure_ (i:=16) (N:=some 28) #[true,true,true,true,true,true,true,true,true,true,true,true,true,true,true,true,true] rfl rfl (any_of HT_.out (by kernel_rfl)) (fun _ _ _ h=>h) (Or.inl ⟨by rfl,tz4⟩) tz1 ?_
           refine done_ (done_of HT_.out (by kernel_rfl)) ?_
           try go_wp2
           go_ret
           exact ⟨by first|rfl|(simp [errW_none,errW_some] <;> rfl)|(simp [errW_none,errW_some,ne_nil_isEmpty];done)|(simp only [← hji8];first|rfl|(simp [errW_none,errW_some] <;> rfl)|(simp [errW_none,errW_some,ne_nil_isEmpty];done))|(simp [*,errW_none,errW_some] <;> rfl),by repeat (first|(with_reducible first|exact HB.out|apply below_alloc|apply pw_below_drewN|apply below_drew1|refine below_set ?_ b2.out)|exact HB.out)⟩
          ·rw [if_neg b9] at H
           have e5:decide (0≤b0)=false:=decide_eq_false b9
           clear b9
           have H':=Aside0.mk H
           clear H
           have a4:0≤(a1:Int):=of_decide_eq_true tz2
           have a5:a1 < (l0.length:Int):=of_decide_eq_true tz2
           obtain ⟨b1,b5,a6,a7⟩:=at_T117 b8.out a1 a4 a5
           cases b5
           replace a6:=(HB.out.cell (World.block_lt_of_cell? w _ a6)).trans a6
           replace a7:=(HB.out.cell (World.block_lt_of_cell? w _ a7)).trans a7
           replace a4:=eq_true a4
           replace a5:=eq_true a5
           try go_wp2_with (first|((with_reducible refine gate_dst (N:=4) rfl ?_);refine box_event ?hg (N:=4) ?hd (cs:=#[.int .i64 0,.int .i64 0]) (t:=117) ?hr ?_;(case hd=>rfl);(case hg=>rfl);(case hr=>first|(go_simp;done)|(go_simp;rfl));intro a3 hg d0 hbox hb;refine ap4 (below_step (belowP HB) hb) (hbox) ((by rw [hg];exact (below_size (belowP HB)):w.heap.size≤a3)) ((by rw [hg];exact (below_size (belowP HB)):w.heap.size≤a3)) ?_;clear HB;intro HB a2 GW314 b2;clear hb hbox hg;have g4:d0.cell? ⟨a3,0,none⟩=some (.int .i64 0):=(blk_cell a2.out 0).trans rfl;have g5:d0.cell? ⟨a3,1,none⟩=some (.int .i64 0):=(blk_cell a2.out 1).trans rfl;have g6:=blk_frozen a2.out 0;have g7:=blk_frozen a2.out 1))
           have a8:Aside0 (((d0.setCell ⟨a3,0,none⟩ (.int .i64 ((rd_T117 l0 a1).f0))).setCell ⟨a3,1,none⟩ (.int .i64 ((rd_T117 l0 a1).f1))).heap[a3]? = some (.cells #[.int .i64 ((rd_T117 l0 a1).f0),.int .i64 ((rd_T117 l0 a1).f1)] 117 (0,0))):=⟨by refine blkQ ?_;refine blk_put (cs:=#[.int .i64 ((rd_T117 l0 a1).f0),.int .i64 0]) ?_ 1 _ rfl;refine blkQ ?_;refine blk_put (cs:=#[.int .i64 0,.int .i64 0]) ?_ 0 _ rfl;refine blkQ ?_;exact a2.out⟩
           have a9:Aside0 (Below w.heap.size w ((d0.setCell ⟨a3,0,none⟩ (.int .i64 ((rd_T117 l0 a1).f0))).setCell ⟨a3,1,none⟩ (.int .i64 ((rd_T117 l0 a1).f1)))):=⟨by repeat (first|(with_reducible first|exact HB.out|apply below_alloc|apply pw_below_drewN|apply below_drew1|refine below_set ?_ b2.out)|exact HB.out)⟩
           (try clear a2)
           (try clear HB)
           generalize ((d0.setCell ⟨a3,0,none⟩ (.int .i64 ((rd_T117 l0 a1).f0))).setCell ⟨a3,1,none⟩ (.int .i64 ((rd_T117 l0 a1).f1)))=e7 at a8 a9 ⊢
           have a2:=a8
           have HB:=a9
           clear a8 a9
           refine ap2 (blk_drew a2.out) (below_drew1 HB.out) ?_
           clear a2 HB
           intro a2 HB
           have b6:0≤((ji8):Int):=of_decide_eq_true tz2
           have b7:(ji8) < (l0.length:Int):=of_decide_eq_true tz2
           obtain ⟨d6,d7,b3,b4⟩:=at_T117 b8.out (ji8) b6 b7
           have hw316_1:=b4
           have hw316_0:=b3
           obtain rfl:b1=d6:=(by injection d7)
           replace b3:=(HB.out.cell (World.block_lt_of_cell? w _ b3)).trans b3
           replace b4:=(HB.out.cell (World.block_lt_of_cell? w _ b4)).trans b4
           replace b6:=eq_true b6
           replace b7:=eq_true b7
           refine start_ (n:=17) (S:=fun w'=>w'.cell? ⟨a3,0,none⟩=some (.int .i64 ((rd_T117 l0 a1).f0))∧w'.cell? ⟨a3,1,none⟩=some (.int .i64 ((rd_T117 l0 a1).f1))∧w'.cell? (b1.add (((ji8)).toNat * 2))=some (.int .i64 ((rd_T117 l0 (ji8)).f0))∧w'.cell? ⟨(b1.add (((ji8)).toNat * 2)).block,(b1.add (((ji8)).toNat * 2)).off + 1,none⟩=some (.int .i64 ((rd_T117 l0 (ji8)).f1))) (ds:=[]) #[false,false,false,false,false,false,false,false,false,false,false,false,false,false,false,false,false] (by kernel_rfl) rfl rfl ⟨(blk_cell a2.out 0).trans rfl,(blk_cell a2.out 1).trans rfl,((HB.out.cell (World.block_lt_of_cell? w _ hw316_0)).trans hw316_0),((HB.out.cell (World.block_lt_of_cell? w _ hw316_1)).trans hw316_1)⟩ (fun hHeld=>?_);refine with_tabW claims_Plain.tab4 claims_Plain.bits4 (fun HT_ HW_=>?_)
           generalize e7.drew=g8 at a2 HB b3 b4 hHeld ⊢
           refine take_ (i:=0) (N:=some 12) #[true,false,false,false,false,false,false,false,false,false,false,false,false,false,false,false,false] rfl rfl (take_ofW HT_.out HW_.out (by kernel_rfl)) (fun _ _ _ h=>h) (Or.inl ⟨by rfl,tz6⟩) hHeld tz1 ?_
           refine one_ (i:=1) (N:=some 13) #[true,true,false,false,false,false,false,false,false,false,false,false,false,false,false,false,false] rfl rfl (one_of HT_.out (by kernel_rfl)) (by decide) (fun K hK=>?_)
           refine goes_ Try.func84 (by kernel_rfl) rfl #[.agg #[.int .i64 ((rd_T117 l0 a1).f0),.int .i64 ((rd_T117 l0 a1).f1)]] (by rfl) rfl rfl tz0 ?_
           with_reducible refine (claims_Valid.calls ((rd_T117 l0 a1).f0) ((rd_T117 l0 a1).f1) true _ A5.out).mono ?_
           rintro e g9 ⟨rfl,hb⟩
           refine ⟨_,rfl,?_⟩
           refine ap2 (blk_below (blkP a2) hb) (below_step (belowP HB) hb) ?_
           clear a2 HB
           intro a2 HB
           (try clear hb)
           (try clear hb2)
           (try clear hk)
           (try clear hi)
           refine hK.out _ _ ⟨(blk_cell a2.out 0).trans rfl,(blk_cell a2.out 1).trans rfl,((HB.out.cell (World.block_lt_of_cell? w _ hw316_0)).trans hw316_0),((HB.out.cell (World.block_lt_of_cell? w _ hw316_1)).trans hw316_1)⟩ (fun hHeld=>?_)
           clear hK K
           refine norm_ (a':=?_) ?_ ?_
           rotate_left
           ·show Act.put _ (some 13) _=_
            simp only [Act.put,List.setIfInBounds_toArray,List.set_cons_zero,List.set_cons_succ,i64_w,i32_w]
            rfl
           refine pure_ (i:=2) (N:=some 14) #[true,true,true,false,false,false,false,false,false,false,false,false,false,false,false,false,false] rfl rfl (any_of HT_.out (by kernel_rfl)) (fun _ _ _ h=>h) (Or.inl ⟨by rfl,tz4⟩) tz1 ?_
           refine pure_ (i:=3) (N:=some 15) #[true,true,true,true,false,false,false,false,false,false,false,false,false,false,false,false,false] rfl rfl (any_of HT_.out (by kernel_rfl)) (fun _ _ _ h=>h) (Or.inl ⟨by rfl,tz4⟩) tz1 ?_
           refine pure_ (i:=4) (N:=some 16) #[true,true,true,true,true,false,false,false,false,false,false,false,false,false,false,false,false] rfl rfl (any_of HT_.out (by kernel_rfl)) (fun _ _ _ h=>h) (Or.inl ⟨by rfl,tz4⟩) tz1 ?_
           refine pure_ (i:=5) (N:=some 17) #[true,true,true,true,true,true,false,false,false,false,false,false,false,false,false,false,false] rfl rfl (any_of HT_.out (by kernel_rfl)) (fun _ _ _ h=>h) (Or.inl ⟨by rfl,tz4⟩) tz1 ?_
           refine pure_ (i:=6) (N:=some 18) #[true,true,true,true,true,true,true,false,false,false,false,false,false,false,false,false,false] rfl rfl (any_of HT_.out (by kernel_rfl)) (fun _ _ _ h=>h) (Or.inl ⟨by rfl,tz4⟩) tz1 ?_
           refine pure_ (i:=7) (N:=some 19) #[true,true,true,true,true,true,true,true,false,false,false,false,false,false,false,false,false] rfl rfl (any_of HT_.out (by kernel_rfl)) (fun _ _ _ h=>h) (Or.inl ⟨by rfl,tz4⟩) tz1 ?_
           refine pure_ (i:=8) (N:=some 20) #[true,true,true,true,true,true,true,true,true,false,false,false,false,false,false,false,false] rfl rfl (any_of HT_.out (by kernel_rfl)) (fun _ _ _ h=>h) (Or.inl ⟨by rfl,tz4⟩) tz1 ?_
           refine pure_ (i:=9) (N:=some 21) #[true,true,true,true,true,true,true,true,true,true,false,false,false,false,false,false,false] rfl rfl (any_of HT_.out (by kernel_rfl)) (fun _ _ _ h=>h) (Or.inl ⟨by rfl,tz4⟩) tz1 ?_
           refine pure_ (i:=10) (N:=some 22) #[true,true,true,true,true,true,true,true,true,true,true,false,false,false,false,false,false] rfl rfl (any_of HT_.out (by kernel_rfl)) (fun _ _ _ h=>h) (Or.inl ⟨by rfl,tz4⟩) tz1 ?_
           refine take_ (i:=11) (N:=some 23) #[true,true,true,true,true,true,true,true,true,true,true,true,false,false,false,false,false] rfl rfl (take_ofW HT_.out HW_.out (by kernel_rfl)) (fun _ _ _ h=>h) (Or.inl ⟨by rfl,tz6⟩) hHeld tz1 ?_
           refine take_ (i:=12) (N:=some 24) #[true,true,true,true,true,true,true,true,true,true,true,true,true,false,false,false,false] rfl rfl (take_ofW HT_.out HW_.out (by kernel_rfl)) (fun _ _ _ h=>h) (Or.inl ⟨by rfl,tz6⟩) hHeld tz1 ?_
           refine one_ (i:=13) (N:=some 25) #[true,true,true,true,true,true,true,true,true,true,true,true,true,true,false,false,false] rfl rfl (one_of HT_.out (by kernel_rfl)) (by decide) (fun K hK=>?_)
           refine goes_ Try.func85 (by kernel_rfl) rfl #[.agg #[.int .i64 ((rd_T117 l0 (ji8)).f0),.int .i64 ((rd_T117 l0 (ji8)).f1)],.agg #[.int .i64 ((rd_T117 l0 a1).f0),.int .i64 ((rd_T117 l0 a1).f1)]] (by rfl) rfl rfl (by (try simp only [List.map_toArray,List.map_cons,List.map_nil]);first|done|(simp only [hji8];rfl)|rfl|(simp only [List.length_drop,List.length_take];rfl)) ?_
           with_reducible refine (claims_Compare.calls k1 ((rd_T117 l0 (ji8)).f0) ((rd_T117 l0 (ji8)).f1) ((rd_T117 l0 a1).f0) ((rd_T117 l0 a1).f1) b0 _ e2.out).mono ?_
           rintro e h0 ⟨rfl,hb⟩
           refine ⟨_,rfl,?_⟩
           refine ap2 (blk_below (blkP a2) hb) (below_step (belowP HB) hb) ?_
           clear a2 HB
           intro a2 HB
           (try clear hb)
           (try clear hb2)
           (try clear hk)
           (try clear hi)
           refine hK.out _ _ ⟨(blk_cell a2.out 0).trans rfl,(blk_cell a2.out 1).trans rfl,((HB.out.cell (World.block_lt_of_cell? w _ hw316_0)).trans hw316_0),((HB.out.cell (World.block_lt_of_cell? w _ hw316_1)).trans hw316_1)⟩ (fun hHeld=>?_)
           clear hK K
           refine norm_ (a':=?_) ?_ ?_
           rotate_left
           ·show Act.put _ (some 25) _=_
            simp only [Act.put,List.setIfInBounds_toArray,List.set_cons_zero,List.set_cons_succ,i64_w,i32_w]
            rfl
           refine pure_ (i:=14) (N:=some 26) #[true,true,true,true,true,true,true,true,true,true,true,true,true,true,true,false,false] rfl rfl (any_of HT_.out (by kernel_rfl)) (fun _ _ _ h=>h) (Or.inl ⟨by rfl,tz4⟩) tz1 ?_
           refine pure_ (i:=15) (N:=some 27) #[true,true,true,true,true,true,true,true,true,true,true,true,true,true,true,true,false] rfl rfl (any_of HT_.out (by kernel_rfl)) (fun _ _ _ h=>h) (Or.inl ⟨by rfl,tz4⟩) tz1 ?_
           refine pure_ (i:=16) (N:=some 28) #[true,true,true,true,true,true,true,true,true,true,true,true,true,true,true,true,true] rfl rfl (any_of HT_.out (by kernel_rfl)) (fun _ _ _ h=>h) (Or.inl ⟨by rfl,tz4⟩) tz1 ?_
           refine done_ (done_of HT_.out (by kernel_rfl)) ?_
           try go_wp2
           go_roundg k1
           case measure=>have:=d4.out;omega
           case rel=>exact ⟨(wrap64 (a1 + 1)),tz3,H',⟨by have:=d4.out;omega⟩,⟨by repeat (first|(with_reducible first|exact HB.out|apply below_alloc|apply pw_below_drewN|apply below_drew1|refine below_set ?_ b2.out)|exact HB.out)⟩⟩
         ·rw [if_neg c10] at H
          exact absurd H (by simp)
        ·rw [if_neg c9] at H
         exact absurd H (by simp)
       ·rw [if_neg c7] at H
        have e4:decide (0 < a1)=false:=decide_eq_false c7
        clear c7
        have H':=Aside0.mk H
        clear H
        have a4:0≤(a1:Int):=of_decide_eq_true tz2
        have a5:a1 < (l0.length:Int):=of_decide_eq_true tz2
        obtain ⟨b1,b5,a6,a7⟩:=at_T117 b8.out a1 a4 a5
        cases b5
        replace a6:=(HB.out.cell (World.block_lt_of_cell? w _ a6)).trans a6
        replace a7:=(HB.out.cell (World.block_lt_of_cell? w _ a7)).trans a7
        replace a4:=eq_true a4
        replace a5:=eq_true a5
        try go_wp2_with (first|((with_reducible refine gate_dst (N:=4) rfl ?_);refine box_event ?hg (N:=4) ?hd (cs:=#[.int .i64 0,.int .i64 0]) (t:=117) ?hr ?_;(case hd=>rfl);(case hg=>rfl);(case hr=>first|(go_simp;done)|(go_simp;rfl));intro a3 hg d1 hbox hb;refine ap4 (below_step (belowP HB) hb) (hbox) ((by rw [hg];exact (below_size (belowP HB)):w.heap.size≤a3)) ((by rw [hg];exact (below_size (belowP HB)):w.heap.size≤a3)) ?_;clear HB;intro HB a2 GW314 b2;clear hb hbox hg;have h1:d1.cell? ⟨a3,0,none⟩=some (.int .i64 0):=(blk_cell a2.out 0).trans rfl;have h2:d1.cell? ⟨a3,1,none⟩=some (.int .i64 0):=(blk_cell a2.out 1).trans rfl;have h3:=blk_frozen a2.out 0;have h4:=blk_frozen a2.out 1))
        have a8:Aside0 (((d1.setCell ⟨a3,0,none⟩ (.int .i64 ((rd_T117 l0 a1).f0))).setCell ⟨a3,1,none⟩ (.int .i64 ((rd_T117 l0 a1).f1))).heap[a3]? = some (.cells #[.int .i64 ((rd_T117 l0 a1).f0),.int .i64 ((rd_T117 l0 a1).f1)] 117 (0,0))):=⟨by refine blkQ ?_;refine blk_put (cs:=#[.int .i64 ((rd_T117 l0 a1).f0),.int .i64 0]) ?_ 1 _ rfl;refine blkQ ?_;refine blk_put (cs:=#[.int .i64 0,.int .i64 0]) ?_ 0 _ rfl;refine blkQ ?_;exact a2.out⟩
        have a9:Aside0 (Below w.heap.size w ((d1.setCell ⟨a3,0,none⟩ (.int .i64 ((rd_T117 l0 a1).f0))).setCell ⟨a3,1,none⟩ (.int .i64 ((rd_T117 l0 a1).f1)))):=⟨by repeat (first|(with_reducible first|exact HB.out|apply below_alloc|apply pw_below_drewN|apply below_drew1|refine below_set ?_ b2.out)|exact HB.out)⟩
        (try clear a2)
        (try clear HB)
        generalize ((d1.setCell ⟨a3,0,none⟩ (.int .i64 ((rd_T117 l0 a1).f0))).setCell ⟨a3,1,none⟩ (.int .i64 ((rd_T117 l0 a1).f1)))=e8 at a8 a9 ⊢
        have a2:=a8
        have HB:=a9
        clear a8 a9
        refine ap2 (blk_drew a2.out) (below_drew1 HB.out) ?_
        clear a2 HB
        intro a2 HB
        refine start_ (n:=17) (S:=fun w'=>w'.cell? ⟨a3,0,none⟩=some (.int .i64 ((rd_T117 l0 a1).f0))∧w'.cell? ⟨a3,1,none⟩=some (.int .i64 ((rd_T117 l0 a1).f1))) (ds:=[]) #[false,false,false,false,false,false,false,false,false,false,false,false,false,false,false,false,false] (by kernel_rfl) rfl rfl ⟨(blk_cell a2.out 0).trans rfl,(blk_cell a2.out 1).trans rfl⟩ (fun hHeld=>?_);refine with_tabW claims_Plain.tab4 claims_Plain.bits4 (fun HT_ HW_=>?_)
        generalize e8.drew=h5 at a2 HB hHeld ⊢
        refine take_ (i:=0) (N:=some 12) #[true,false,false,false,false,false,false,false,false,false,false,false,false,false,false,false,false] rfl rfl (take_ofW HT_.out HW_.out (by kernel_rfl)) (fun _ _ _ h=>h) (Or.inl ⟨by rfl,(by rintro w' ⟨s0,s1⟩;go_simp;with_reducible rfl)⟩) hHeld tz1 ?_
        refine one_ (i:=1) (N:=some 13) #[true,true,false,false,false,false,false,false,false,false,false,false,false,false,false,false,false] rfl rfl (one_of HT_.out (by kernel_rfl)) (by decide) (fun K hK=>?_)
        refine goes_ Try.func84 (by kernel_rfl) rfl #[.agg #[.int .i64 ((rd_T117 l0 a1).f0),.int .i64 ((rd_T117 l0 a1).f1)]] (by rfl) rfl rfl tz0 ?_
        with_reducible refine (claims_Valid.calls ((rd_T117 l0 a1).f0) ((rd_T117 l0 a1).f1) true _ A5.out).mono ?_
        rintro e h6 ⟨rfl,hb⟩
        refine ⟨_,rfl,?_⟩
        refine ap2 (blk_below (blkP a2) hb) (below_step (belowP HB) hb) ?_
        clear a2 HB
        intro a2 HB
        (try clear hb)
        (try clear hb2)
        (try clear hk)
        (try clear hi)
        refine hK.out _ _ ⟨(blk_cell a2.out 0).trans rfl,(blk_cell a2.out 1).trans rfl⟩ (fun hHeld=>?_)
        clear hK K
        refine norm_ (a':=?_) ?_ ?_
        rotate_left
        ·show Act.put _ (some 13) _=_
         simp only [Act.put,List.setIfInBounds_toArray,List.set_cons_zero,List.set_cons_succ,i64_w,i32_w]
         rfl
        refine pure_ (i:=2) (N:=some 14) #[true,true,true,false,false,false,false,false,false,false,false,false,false,false,false,false,false] rfl rfl (any_of HT_.out (by kernel_rfl)) (fun _ _ _ h=>h) (Or.inl ⟨by rfl,tz4⟩) tz1 ?_
        refine pure_ (i:=3) (N:=some 15) #[true,true,true,true,false,false,false,false,false,false,false,false,false,false,false,false,false] rfl rfl (any_of HT_.out (by kernel_rfl)) (fun _ _ _ h=>h) (Or.inl ⟨by rfl,tz4⟩) tz1 ?_
        refine pure_ (i:=4) (N:=some 16) #[true,true,true,true,true,false,false,false,false,false,false,false,false,false,false,false,false] rfl rfl (any_of HT_.out (by kernel_rfl)) (fun _ _ _ h=>h) (Or.inl ⟨by rfl,tz4⟩) tz1 ?_
        refine pure_ (i:=5) (N:=some 17) #[true,true,true,true,true,true,false,false,false,false,false,false,false,false,false,false,false] rfl rfl (any_of HT_.out (by kernel_rfl)) (fun _ _ _ h=>h) (Or.inl ⟨by rfl,tz4⟩) tz1 ?_
        refine pure_ (i:=6) (N:=some 18) #[true,true,true,true,true,true,true,false,false,false,false,false,false,false,false,false,false] rfl rfl (any_of HT_.out (by kernel_rfl)) (fun _ _ _ h=>h) (Or.inl ⟨by rfl,tz4⟩) tz1 ?_
        refine pure_ (i:=7) (N:=some 19) (v:=undef) (a':=?_) #[true,true,true,true,true,true,true,true,false,false,false,false,false,false,false,false,false] rfl rfl (any_of HT_.out (by kernel_rfl)) (fun _ _ _ h=>h) (Or.inr ⟨by rfl,rfl⟩) ?_ ?_
        rotate_left
        ·simp only [Act.put,List.setIfInBounds_toArray,List.set_cons_zero,List.set_cons_succ,i64_w,i32_w]
         rfl
        refine pure_ (i:=8) (N:=some 20) (v:=undef) (a':=?_) #[true,true,true,true,true,true,true,true,true,false,false,false,false,false,false,false,false] rfl rfl (any_of HT_.out (by kernel_rfl)) (fun _ _ _ h=>h) (Or.inr ⟨by rfl,rfl⟩) ?_ ?_
        rotate_left
        ·simp only [Act.put,List.setIfInBounds_toArray,List.set_cons_zero,List.set_cons_succ,i64_w,i32_w]
         rfl
        refine pure_ (i:=9) (N:=some 21) (v:=undef) (a':=?_) #[true,true,true,true,true,true,true,true,true,true,false,false,false,false,false,false,false] rfl rfl (any_of HT_.out (by kernel_rfl)) (fun _ _ _ h=>h) (Or.inr ⟨by rfl,rfl⟩) ?_ ?_
        rotate_left
        ·simp only [Act.put,List.setIfInBounds_toArray,List.set_cons_zero,List.set_cons_succ,i64_w,i32_w]
         rfl
        refine pure_ (i:=10) (N:=some 22) (v:=undef) (a':=?_) #[true,true,true,true,true,true,true,true,true,true,true,false,false,false,false,false,false] rfl rfl (any_of HT_.out (by kernel_rfl)) (fun _ _ _ h=>h) (Or.inr ⟨by rfl,rfl⟩) ?_ ?_
        rotate_left
        ·simp only [Act.put,List.setIfInBounds_toArray,List.set_cons_zero,List.set_cons_succ,i64_w,i32_w]
         rfl
        refine pure_ (i:=11) (N:=some 23) (v:=undef) (a':=?_) #[true,true,true,true,true,true,true,true,true,true,true,true,false,false,false,false,false] rfl rfl (any_of HT_.out (by kernel_rfl)) (fun _ _ _ h=>h) (Or.inr ⟨by rfl,rfl⟩) ?_ ?_
        rotate_left
        ·simp only [Act.put,List.setIfInBounds_toArray,List.set_cons_zero,List.set_cons_succ,i64_w,i32_w]
         rfl
        refine pure_ (i:=12) (N:=some 24) (v:=undef) (a':=?_) #[true,true,true,true,true,true,true,true,true,true,true,true,true,false,false,false,false] rfl rfl (any_of HT_.out (by kernel_rfl)) (fun _ _ _ h=>h) (Or.inr ⟨by rfl,rfl⟩) ?_ ?_
        rotate_left
        ·simp only [Act.put,List.setIfInBounds_toArray,List.set_cons_zero,List.set_cons_succ,i64_w,i32_w]
         rfl
        refine pure_ (i:=13) (N:=some 25) (v:=undef) (a':=?_) #[true,true,true,true,true,true,true,true,true,true,true,true,true,true,false,false,false] rfl rfl (any_of HT_.out (by kernel_rfl)) (fun _ _ _ h=>h) (Or.inr ⟨by rfl,rfl⟩) ?_ ?_
        rotate_left
        ·simp only [Act.put,List.setIfInBounds_toArray,List.set_cons_zero,List.set_cons_succ,i64_w,i32_w]
         rfl
        refine pure_ (i:=14) (N:=some 26) (v:=undef) (a':=?_) #[true,true,true,true,true,true,true,true,true,true,true,true,true,true,true,false,false] rfl rfl (any_of HT_.out (by kernel_rfl)) (fun _ _ _ h=>h) (Or.inr ⟨by rfl,rfl⟩) ?_ ?_
        rotate_left
        ·simp only [Act.put,List.setIfInBounds_toArray,List.set_cons_zero,List.set_cons_succ,i64_w,i32_w]
         rfl
        refine pure_ (i:=15) (N:=some 27) #[true,true,true,true,true,true,true,true,true,true,true,true,true,true,true,true,false] rfl rfl (any_of HT_.out (by kernel_rfl)) (fun _ _ _ h=>h) (Or.inl ⟨by rfl,tz4⟩) tz1 ?_
        refine pure_ (i:=16) (N:=some 28) #[true,true,true,true,true,true,true,true,true,true,true,true,true,true,true,true,true] rfl rfl (any_of HT_.out (by kernel_rfl)) (fun _ _ _ h=>h) (Or.inl ⟨by rfl,tz4⟩) tz1 ?_
        refine done_ (done_of HT_.out (by kernel_rfl)) ?_
        try go_wp2
        go_roundg k1
        case measure=>have:=d4.out;omega
        case rel=>exact ⟨(wrap64 (a1 + 1)),tz3,H',⟨by have:=d4.out;omega⟩,⟨by repeat (first|(with_reducible first|exact HB.out|apply below_alloc|apply pw_below_drewN|apply below_drew1|refine below_set ?_ b2.out)|exact HB.out)⟩⟩
      ·replace c6:=Bool.eq_false_iff.mpr c6
       subst c6
       rw [if_neg (show ¬ (false=true) by decide)] at H
       obtain rfl:=Option.some.inj H
       have a4:0≤(a1:Int):=of_decide_eq_true tz2
       have a5:a1 < (l0.length:Int):=of_decide_eq_true tz2
       obtain ⟨b1,b5,a6,a7⟩:=at_T117 b8.out a1 a4 a5
       cases b5
       replace a6:=(HB.out.cell (World.block_lt_of_cell? w _ a6)).trans a6
       replace a7:=(HB.out.cell (World.block_lt_of_cell? w _ a7)).trans a7
       replace a4:=eq_true a4
       replace a5:=eq_true a5
       try go_wp2_with (first|((with_reducible refine gate_dst (N:=4) rfl ?_);refine box_event ?hg (N:=4) ?hd (cs:=#[.int .i64 0,.int .i64 0]) (t:=117) ?hr ?_;(case hd=>rfl);(case hg=>rfl);(case hr=>first|(go_simp;done)|(go_simp;rfl));intro a3 hg d2 hbox hb;refine ap4 (below_step (belowP HB) hb) (hbox) ((by rw [hg];exact (below_size (belowP HB)):w.heap.size≤a3)) ((by rw [hg];exact (below_size (belowP HB)):w.heap.size≤a3)) ?_;clear HB;intro HB a2 GW314 b2;clear hb hbox hg;have h7:d2.cell? ⟨a3,0,none⟩=some (.int .i64 0):=(blk_cell a2.out 0).trans rfl;have h8:d2.cell? ⟨a3,1,none⟩=some (.int .i64 0):=(blk_cell a2.out 1).trans rfl;have h9:=blk_frozen a2.out 0;have i0:=blk_frozen a2.out 1))
       have a8:Aside0 (((d2.setCell ⟨a3,0,none⟩ (.int .i64 ((rd_T117 l0 a1).f0))).setCell ⟨a3,1,none⟩ (.int .i64 ((rd_T117 l0 a1).f1))).heap[a3]? = some (.cells #[.int .i64 ((rd_T117 l0 a1).f0),.int .i64 ((rd_T117 l0 a1).f1)] 117 (0,0))):=⟨by refine blkQ ?_;refine blk_put (cs:=#[.int .i64 ((rd_T117 l0 a1).f0),.int .i64 0]) ?_ 1 _ rfl;refine blkQ ?_;refine blk_put (cs:=#[.int .i64 0,.int .i64 0]) ?_ 0 _ rfl;refine blkQ ?_;exact a2.out⟩
       have a9:Aside0 (Below w.heap.size w ((d2.setCell ⟨a3,0,none⟩ (.int .i64 ((rd_T117 l0 a1).f0))).setCell ⟨a3,1,none⟩ (.int .i64 ((rd_T117 l0 a1).f1)))):=⟨by repeat (first|(with_reducible first|exact HB.out|apply below_alloc|apply pw_below_drewN|apply below_drew1|refine below_set ?_ b2.out)|exact HB.out)⟩
       (try clear a2)
       (try clear HB)
       generalize ((d2.setCell ⟨a3,0,none⟩ (.int .i64 ((rd_T117 l0 a1).f0))).setCell ⟨a3,1,none⟩ (.int .i64 ((rd_T117 l0 a1).f1)))=e9 at a8 a9 ⊢
       have a2:=a8
       have HB:=a9
       clear a8 a9
       refine ap2 (blk_drew a2.out) (below_drew1 HB.out) ?_
       clear a2 HB
       intro a2 HB
       refine start_ (n:=17) (S:=fun w'=>w'.cell? ⟨a3,0,none⟩=some (.int .i64 ((rd_T117 l0 a1).f0))∧w'.cell? ⟨a3,1,none⟩=some (.int .i64 ((rd_T117 l0 a1).f1))) (ds:=[]) #[false,false,false,false,false,false,false,false,false,false,false,false,false,false,false,false,false] (by kernel_rfl) rfl rfl ⟨(blk_cell a2.out 0).trans rfl,(blk_cell a2.out 1).trans rfl⟩ (fun hHeld=>?_);refine with_tabW claims_Plain.tab4 claims_Plain.bits4 (fun HT_ HW_=>?_)
       generalize e9.drew=i1 at a2 HB hHeld ⊢
       refine take_ (i:=0) (N:=some 12) #[true,false,false,false,false,false,false,false,false,false,false,false,false,false,false,false,false] rfl rfl (take_ofW HT_.out HW_.out (by kernel_rfl)) (fun _ _ _ h=>h) (Or.inl ⟨by rfl,(by rintro w' ⟨s0,s1⟩;go_simp;with_reducible rfl)⟩) hHeld tz1 ?_
       refine one_ (i:=1) (N:=some 13) #[true,true,false,false,false,false,false,false,false,false,false,false,false,false,false,false,false] rfl rfl (one_of HT_.out (by kernel_rfl)) (by decide) (fun K hK=>?_)
       refine goes_ Try.func84 (by kernel_rfl) rfl #[.agg #[.int .i64 ((rd_T117 l0 a1).f0),.int .i64 ((rd_T117 l0 a1).f1)]] (by rfl) rfl rfl tz0 ?_
       with_reducible refine (claims_Valid.calls ((rd_T117 l0 a1).f0) ((rd_T117 l0 a1).f1) false _ A5.out).mono ?_
       rintro e i2 ⟨rfl,hb⟩
       refine ⟨_,rfl,?_⟩
       refine ap2 (blk_below (blkP a2) hb) (below_step (belowP HB) hb) ?_
       clear a2 HB
       intro a2 HB
       (try clear hb)
       (try clear hb2)
       (try clear hk)
       (try clear hi)
       refine hK.out _ _ ⟨(blk_cell a2.out 0).trans rfl,(blk_cell a2.out 1).trans rfl⟩ (fun hHeld=>?_)
       clear hK K
       refine norm_ (a':=?_) ?_ ?_
       rotate_left
       ·show Act.put _ (some 13) _=_
        simp only [Act.put,List.setIfInBounds_toArray,List.set_cons_zero,List.set_cons_succ,i64_w,i32_w]
        rfl
       refine pure_ (i:=2) (N:=some 14) #[true,true,true,false,false,false,false,false,false,false,false,false,false,false,false,false,false] rfl rfl (any_of HT_.out (by kernel_rfl)) (fun _ _ _ h=>h) (Or.inl ⟨by rfl,tz4⟩) tz1 ?_
       refine pure_ (i:=3) (N:=some 15) #[true,true,true,true,false,false,false,false,false,false,false,false,false,false,false,false,false] rfl rfl (any_of HT_.out (by kernel_rfl)) (fun _ _ _ h=>h) (Or.inl ⟨by rfl,tz4⟩) tz1 ?_
       refine pure_ (i:=4) (N:=some 16) (v:=undef) (a':=?_) #[true,true,true,true,true,false,false,false,false,false,false,false,false,false,false,false,false] rfl rfl (any_of HT_.out (by kernel_rfl)) (fun _ _ _ h=>h) (Or.inr ⟨by rfl,rfl⟩) ?_ ?_
       rotate_left
       ·simp only [Act.put,List.setIfInBounds_toArray,List.set_cons_zero,List.set_cons_succ,i64_w,i32_w]
        rfl
       refine pure_ (i:=5) (N:=some 17) (v:=undef) (a':=?_) #[true,true,true,true,true,true,false,false,false,false,false,false,false,false,false,false,false] rfl rfl (any_of HT_.out (by kernel_rfl)) (fun _ _ _ h=>h) (Or.inr ⟨by rfl,rfl⟩) ?_ ?_
       rotate_left
       ·simp only [Act.put,List.setIfInBounds_toArray,List.set_cons_zero,List.set_cons_succ,i64_w,i32_w]
        rfl
       refine pure_ (i:=6) (N:=some 18) (v:=undef) (a':=?_) #[true,true,true,true,true,true,true,false,false,false,false,false,false,false,false,false,false] rfl rfl (any_of HT_.out (by kernel_rfl)) (fun _ _ _ h=>h) (Or.inr ⟨by rfl,rfl⟩) ?_ ?_
       rotate_left
       ·simp only [Act.put,List.setIfInBounds_toArray,List.set_cons_zero,List.set_cons_succ,i64_w,i32_w]
        rfl
       refine pure_ (i:=7) (N:=some 19) (v:=undef) (a':=?_) #[true,true,true,true,true,true,true,true,false,false,false,false,false,false,false,false,false] rfl rfl (any_of HT_.out (by kernel_rfl)) (fun _ _ _ h=>h) (Or.inr ⟨by rfl,rfl⟩) ?_ ?_
       rotate_left
       ·simp only [Act.put,List.setIfInBounds_toArray,List.set_cons_zero,List.set_cons_succ,i64_w,i32_w]
        rfl
       refine pure_ (i:=8) (N:=some 20) (v:=undef) (a':=?_) #[true,true,true,true,true,true,true,true,true,false,false,false,false,false,false,false,false] rfl rfl (any_of HT_.out (by kernel_rfl)) (fun _ _ _ h=>h) (Or.inr ⟨by rfl,rfl⟩) ?_ ?_
       rotate_left
       ·simp only [Act.put,List.setIfInBounds_toArray,List.set_cons_zero,List.set_cons_succ,i64_w,i32_w]
        rfl
       refine pure_ (i:=9) (N:=some 21) (v:=undef) (a':=?_) #[true,true,true,true,true,true,true,true,true,true,false,false,false,false,false,false,false] rfl rfl (any_of HT_.out (by kernel_rfl)) (fun _ _ _ h=>h) (Or.inr ⟨by rfl,rfl⟩) ?_ ?_
       rotate_left
       ·simp only [Act.put,List.setIfInBounds_toArray,List.set_cons_zero,List.set_cons_succ,i64_w,i32_w]
        rfl
       refine pure_ (i:=10) (N:=some 22) (v:=undef) (a':=?_) #[true,true,true,true,true,true,true,true,true,true,true,false,false,false,false,false,false] rfl rfl (any_of HT_.out (by kernel_rfl)) (fun _ _ _ h=>h) (Or.inr ⟨by rfl,rfl⟩) ?_ ?_
       rotate_left
       ·simp only [Act.put,List.setIfInBounds_toArray,List.set_cons_zero,List.set_cons_succ,i64_w,i32_w]
        rfl
       refine pure_ (i:=11) (N:=some 23) (v:=undef) (a':=?_) #[true,true,true,true,true,true,true,true,true,true,true,true,false,false,false,false,false] rfl rfl (any_of HT_.out (by kernel_rfl)) (fun _ _ _ h=>h) (Or.inr ⟨by rfl,rfl⟩) ?_ ?_
       rotate_left
       ·simp only [Act.put,List.setIfInBounds_toArray,List.set_cons_zero,List.set_cons_succ,i64_w,i32_w]
        rfl
       refine pure_ (i:=12) (N:=some 24) (v:=undef) (a':=?_) #[true,true,true,true,true,true,true,true,true,true,true,true,true,false,false,false,false] rfl rfl (any_of HT_.out (by kernel_rfl)) (fun _ _ _ h=>h) (Or.inr ⟨by rfl,rfl⟩) ?_ ?_
       rotate_left
       ·simp only [Act.put,List.setIfInBounds_toArray,List.set_cons_zero,List.set_cons_succ,i64_w,i32_w]
        rfl
       refine pure_ (i:=13) (N:=some 25) (v:=undef) (a':=?_) #[true,true,true,true,true,true,true,true,true,true,true,true,true,true,false,false,false] rfl rfl (any_of HT_.out (by kernel_rfl)) (fun _ _ _ h=>h) (Or.inr ⟨by rfl,rfl⟩) ?_ ?_
       rotate_left
       ·simp only [Act.put,List.setIfInBounds_toArray,List.set_cons_zero,List.set_cons_succ,i64_w,i32_w]
        rfl
       refine pure_ (i:=14) (N:=some 26) (v:=undef) (a':=?_) #[true,true,true,true,true,true,true,true,true,true,true,true,true,true,true,false,false] rfl rfl (any_of HT_.out (by kernel_rfl)) (fun _ _ _ h=>h) (Or.inr ⟨by rfl,rfl⟩) ?_ ?_
       rotate_left
       ·simp only [Act.put,List.setIfInBounds_toArray,List.set_cons_zero,List.set_cons_succ,i64_w,i32_w]
        rfl
       refine pure_ (i:=15) (N:=some 27) (v:=undef) (a':=?_) #[true,true,true,true,true,true,true,true,true,true,true,true,true,true,true,true,false] rfl rfl (any_of HT_.out (by kernel_rfl)) (fun _ _ _ h=>h) (Or.inr ⟨by rfl,rfl⟩) ?_ ?_
       rotate_left
       ·simp only [Act.put,List.setIfInBounds_toArray,List.set_cons_zero,List.set_cons_succ,i64_w,i32_w]
        rfl
       refine pure_ (i:=16) (N:=some 28) #[true,true,true,true,true,true,true,true,true,true,true,true,true,true,true,true,true] rfl rfl (any_of HT_.out (by kernel_rfl)) (fun _ _ _ h=>h) (Or.inl ⟨by rfl,tz4⟩) tz1 ?_
       refine done_ (done_of HT_.out (by kernel_rfl)) ?_
       try go_wp2
       go_ret
       exact ⟨rE,by repeat (first|(with_reducible first|exact HB.out|apply below_alloc|apply pw_below_drewN|apply below_drew1|refine below_set ?_ b2.out)|exact HB.out)⟩
     ·rw [if_neg c4] at H
      exact absurd H (by simp)
    ·rw [if_neg c3] at H
     exact absurd H (by simp)
   ·rw [if_neg c2] at H
    have e3:decide (a1 < (l0.length:Int))=false:=decide_eq_false c2
    clear c2
    obtain rfl:=Option.some.inj H
    go_wp2
    go_ret
    exact ⟨rE,by repeat (first|(with_reducible first|exact HB.out|apply below_alloc|apply pw_below_drewN|apply below_drew1)|exact HB.out)⟩
mutual
def threshold_Depth.l0:Nat→Int→List (S30)→Int→Int→Option (Int)
 | 0,_,_,_,_=>none
 | k + 1,x3,x7,x8,x9=>if x9 < x8 then (if 0≤x9 then (if x9 < (x7.length:Int) then ((threshold_Depth.f k ((rd_T30 x7 x9).f0) ((rd_T30 x7 x9).f1) ((rd_T30 x7 x9).f2)).bind fun b1=>(threshold_Depth.l0 k (mx x3 b1) x7 x8 (wrap64 (x9 + 1)))) else (none)) else (none)) else (some (wrap64 (x3 + 1)))
def threshold_Depth.f:Nat→Int→List Int→List (S30)→Option (Int)
 | 0,_,_,_=>none
 | k + 1,a9,a6,a3=>threshold_Depth.l0 k 0 a3 (a3.length:Int) 0
end
theorem threshold_Depth.mono_l:∀ k,(∀ y0 y1 y2,LeO (threshold_Depth.f k y0 y1 y2) (threshold_Depth.f (k + 1) y0 y1 y2))∧(∀ y0 y1 y2 y3,LeO (threshold_Depth.l0 k y0 y1 y2 y3) (threshold_Depth.l0 (k + 1) y0 y1 y2 y3))
 | 0=>⟨fun _ _ _ r h=>by simp [threshold_Depth.f] at h,fun _ _ _ _ r h=>by simp [threshold_Depth.l0] at h⟩
 | k + 1=>by
  obtain ⟨b7,b9⟩:=threshold_Depth.mono_l k
  refine ⟨?_,?_⟩
  ·intro y0 y1 y2
   unfold threshold_Depth.f
   repeat' first
   | (with_reducible exact b7 _ _ _)
   | (with_reducible exact b9 _ _ _ _)
   | (with_reducible exact LeO.refl _)
   | (with_reducible exact LeO.none _)
   | (with_reducible refine LeO.ite ?_ ?_)
   | (with_reducible refine LeO.bind ?_ (fun _=>?_))
  ·intro y0 y1 y2 y3
   unfold threshold_Depth.l0
   repeat' first
   | (with_reducible exact b7 _ _ _)
   | (with_reducible exact b9 _ _ _ _)
   | (with_reducible exact LeO.refl _)
   | (with_reducible exact LeO.none _)
   | (with_reducible refine LeO.ite ?_ ?_)
   | (with_reducible refine LeO.bind ?_ (fun _=>?_))
theorem threshold_Depth.mono:∀ a0 a1 a2 k,LeO (threshold_Depth.f k a0 a1 a2) (threshold_Depth.f (k + 1) a0 a1 a2):=by
 intro a0 a1 a2 k
 obtain ⟨b7,b9⟩:=threshold_Depth.mono_l k
 exact b7 a0 a1 a2
set_option maxHeartbeats 8000000 in
set_option maxRecDepth 100000 in
theorem threshold_Depth.calls (k:Nat):∀ (a9:Int) (b2:Option Addr) (b3:Nat) (a6:List Int) (b6:Option Addr) (b4:Nat) (a3:List (S30)) (r:Int) (w:World) (c0:Kd.C (Kd.int .i64) w b2 a6.length a6) (c1:a6.length≤b3) (d0:Kd.C k30 w b6 a3.length a3) (d1:a3.length≤b4) (h:threshold_Depth.f k a9 a6 a3=some r),
  Calls Try.prog 17 #[.agg #[.int .i64 a9,.slice b2 a6.length b3,.slice b6 a3.length b4]] w fun e w'=>e = .returned (.int .i64 r)∧Below w.heap.size w w':=by
 induction k using Nat.strongRecOn with
 | _ k ih=>
 intro a9 b2 b3 a6 b6 b4 a3 r w c0 c1 d0 d1 h
 cases k with
 | zero=>exact absurd h (by simp [threshold_Depth.f])
 | succ k=>
 simp only [threshold_Depth.f] at h
 have hu30:=Try.underlying30
 have g7:=Aside0.mk c0
 have g8:=Aside0.mk c1
 clear c0 c1
 have e8:=Aside0.mk d0
 have g9:=Aside0.mk d1
 clear d0 d1
 have HB:=Aside0.mk (Below.refl w.heap.size w)
 have H:(threshold_Depth.l0 k 0 a3 (a3.length:Int) 0)=some r:=h
 clear h
 have H':=Aside0.mk H
 clear H
 go_enter Try.func17,Try.ntmps17
 go_wp2_with (first|((with_reducible refine gate_dst (N:=1) rfl ?_);refine box_event ?hg (N:=1) ?hd (cs:=#[.int .i64 a9,.slice b2 a6.length b3,.slice b6 a3.length b4]) (t:=30) ?hr ?_;(case hd=>rfl);(case hg=>rfl);(case hr=>first|(go_simp;done)|(go_simp;rfl));intro a7 hg w2 hbox hb;refine ap4 (below_step (belowP HB) hb) (hbox) ((by rw [hg];exact (below_size (belowP HB)):w.heap.size≤a7)) ((by rw [hg];exact (below_size (belowP HB)):w.heap.size≤a7)) ?_;clear HB;intro HB a5 GW115 d2;clear hb hbox hg;have e9:w2.cell? ⟨a7,0,none⟩=some (.int .i64 a9):=(blk_cell a5.out 0).trans rfl;have f3:w2.cell? ⟨a7,1,none⟩=some (.slice b2 a6.length b3):=(blk_cell a5.out 1).trans rfl;have f4:w2.cell? ⟨a7,2,none⟩=some (.slice b6 a3.length b4):=(blk_cell a5.out 2).trans rfl;have f5:=blk_frozen a5.out 0;have f6:=blk_frozen a5.out 1;have f7:=blk_frozen a5.out 2))
 go_loopg [3,9] k (fun kq v3 v9 w'=>∃ (b5:Int) (a4:Int),v3 = .int .i64 b5∧v9 = .int .i64 a4∧Aside0 (threshold_Depth.l0 kq b5 a3 (a3.length:Int) a4=some r)∧Aside0 (kq≤k)∧Aside0 (w'.heap[a7]? = some (.cells #[.int .i64 a9,(.slice b2 a6.length b3),(.slice b6 a3.length b4)] 30 (0,0)))∧Aside0 (Below w.heap.size w w'))
 case atStart=>exact ⟨(0),(0),tz3,tz3,H',⟨Nat.le_refl _⟩,⟨by refine blkQ ?_;exact a5.out⟩,⟨by repeat (first|(with_reducible first|exact HB.out|apply below_alloc|apply pw_below_drewN|apply below_drew1|refine below_set ?_ d2.out)|exact HB.out)⟩⟩
 case round=>
  clear H'
  try clear e9
  try clear f3
  try clear f4
  try clear f5
  try clear f6
  try clear f7
  try clear a5
  try clear HB
  obtain ⟨b5,a4,rfl,rfl,HA,d3,a5,HB⟩:=hrel
  cases gk with
  | zero=>exact absurd HA.out (by simp [threshold_Depth.l0])
  | succ k1=>
   have H:=HA.out
   clear HA
   simp only [threshold_Depth.l0] at H
   by_cases c4:a4 < (a3.length:Int)
   ·rw [if_pos c4] at H
    have f8:decide (a4 < (a3.length:Int))=true:=decide_eq_true c4
    clear c4
    by_cases c5:0≤a4
    ·rw [if_pos c5] at H
     have h0:decide (0≤a4)=true:=decide_eq_true c5
     clear c5
     by_cases c6:a4 < (a3.length:Int)
     ·rw [if_pos c6] at H
      have h1:decide (a4 < (a3.length:Int))=true:=decide_eq_true c6
      clear c6
      replace H:=Option.bind_eq_some_iff.mp H
      obtain ⟨b1,e1,H⟩:=H
      replace H:(threshold_Depth.l0 k1 (mx b5 b1) a3 (a3.length:Int) (wrap64 (a4 + 1)))=some r:=H
      have A7:=Aside0.mk e1
      clear e1
      obtain ⟨ji8,hji8⟩:∃ j_:Int,(mx b5 b1)=j_:=⟨_,rfl⟩
      replace H:(threshold_Depth.l0 k1 ji8 a3 (a3.length:Int) (wrap64 (a4 + 1)))=some r:=by first|(rw [hji8] at H;exact H)|(simp only [hji8] at H ⊢;exact H)
      (try rw [hji8] at A7)
      have hji8_:(if b5 < b1 then b1 else b5)=ji8:=hji8
      have H':=Aside0.mk H
      clear H
      have d4:0≤(a4:Int):=of_decide_eq_true tz2
      have d5:a4 < (a3.length:Int):=of_decide_eq_true tz2
      obtain ⟨f9,d6,d7,e2,e3,g0,d8,d9,e0,e4,e5,e6,e7⟩:=at_T30 e8.out a4 d4 d5
      cases g0
      replace d8:=(HB.out.cell (World.block_lt_of_cell? w _ d8)).trans d8
      replace d9:=(HB.out.cell (World.block_lt_of_cell? w _ d9)).trans d9
      replace e0:=(HB.out.cell (World.block_lt_of_cell? w _ e0)).trans e0
      have g1:=Aside0.mk e5
      have g2:=Aside0.mk e4
      clear e5 e4
      have g3:=Aside0.mk e7
      have g4:=Aside0.mk e6
      clear e7 e6
      replace d4:=eq_true d4
      replace d5:=eq_true d5
      go_wp2_with (first|((with_reducible refine gate_dst (N:=5) rfl ?_);refine box_event ?hg (N:=5) ?hd (cs:=#[.int .i64 0,.slice none 0 0,.slice none 0 0]) (t:=30) ?hr ?_;(case hd=>rfl);(case hg=>rfl);(case hr=>first|(go_simp;done)|(go_simp;rfl));intro b0 hg w9 hbox hb;refine ap7 (blk_below (blkP a5) hb) (below_step (belowP HB) hb) (hbox) ((by rw [hg];exact (below_size (belowP HB)):w.heap.size≤b0)) ((by rw [hg];exact (below_size (belowP HB)):w.heap.size≤b0)) ((by rw [hg];exact Nat.ne_of_lt (blk_lt (blkP a5)):a7≠b0)) ((by rw [hg];exact Nat.ne_of_gt (blk_lt (blkP a5)):b0≠a7)) ?_;clear a5 HB;intro a5 HB a8 GW117 g5 b8 g6;clear hb hbox hg;have h2:=g6.out;have h3:=b8.out;have h4:w9.cell? ⟨b0,0,none⟩=some (.int .i64 0):=(blk_cell a8.out 0).trans rfl;have h5:w9.cell? ⟨b0,1,none⟩=some (.slice none 0 0):=(blk_cell a8.out 1).trans rfl;have h6:w9.cell? ⟨b0,2,none⟩=some (.slice none 0 0):=(blk_cell a8.out 2).trans rfl;have h7:=blk_frozen a8.out 0;have h8:=blk_frozen a8.out 1;have h9:=blk_frozen a8.out 2)|((with_reducible refine gate_callee (f:=17) rfl ?_);refine goesL_ (some 15) rfl rfl Try.func17 (by kernel_rfl) rfl #[.agg #[.int .i64 ((rd_T30 a3 a4).f0),.slice d6 ((rd_T30 a3 a4).f1).length d7,.slice e2 ((rd_T30 a3 a4).f2).length e3]] rfl tz0 ?_;(with_reducible refine (ih k1 (by have:=d3.out;omega) ((rd_T30 a3 a4).f0) _ _ ((rd_T30 a3 a4).f1) _ _ ((rd_T30 a3 a4).f2) b1 _ ?side1 ?side2 ?side3 ?side4 A7.out).mono ?_);(case side1=>exact Kd.C_below g1.out (belowP HB));(case side2=>exact g2.out);(case side3=>exact Kd.C_below g3.out (belowP HB));(case side4=>exact g4.out);rintro e i0 ⟨rfl,hb⟩;refine ⟨_,rfl,?_⟩;refine ap3 (blk_below (g:=a7) (o:=.cells #[.int .i64 a9,.slice b2 a6.length b3,.slice (some f9) a3.length b4] 30 (0,0)) (by refine blkQ ?_;refine blk_far ?_ b8.out _;refine blkQ ?_;refine blk_far ?_ b8.out _;refine blkQ ?_;refine blk_far ?_ b8.out _;refine blkQ ?_;exact a5.out) hb) (blk_below (g:=b0) (o:=.cells #[.int .i64 ((rd_T30 a3 a4).f0),.slice d6 ((rd_T30 a3 a4).f1).length d7,.slice e2 ((rd_T30 a3 a4).f2).length e3] 30 (0,0)) (by refine blkQ ?_;refine blk_put (cs:=#[.int .i64 ((rd_T30 a3 a4).f0),.slice d6 ((rd_T30 a3 a4).f1).length d7,.slice none 0 0]) ?_ 2 _ rfl;refine blkQ ?_;refine blk_put (cs:=#[.int .i64 ((rd_T30 a3 a4).f0),.slice none 0 0,.slice none 0 0]) ?_ 1 _ rfl;refine blkQ ?_;refine blk_put (cs:=#[.int .i64 0,.slice none 0 0,.slice none 0 0]) ?_ 0 _ rfl;refine blkQ ?_;exact a8.out) hb) (below_step (belowP HB) hb) ?_;clear a5 a8 HB;intro a5 a8 HB))
      go_roundg k1
      case measure=>have:=d3.out;omega
      case rel=>exact ⟨(ji8),(wrap64 (a4 + 1)),(by first|rfl|(simp;done)|(simp only [← hji8] <;> (first|rfl|simp))|(simp [*];done)),tz3,H',⟨by have:=d3.out;omega⟩,⟨by refine blkQ ?_;exact a5.out⟩,⟨by repeat (first|(with_reducible first|exact HB.out|apply below_alloc|apply pw_below_drewN|apply below_drew1|refine below_set ?_ d2.out|refine below_set ?_ g5.out)|exact HB.out)⟩⟩
     ·rw [if_neg c6] at H
      exact absurd H (by simp)
    ·rw [if_neg c5] at H
     exact absurd H (by simp)
   ·rw [if_neg c4] at H
    have f8:decide (a4 < (a3.length:Int))=false:=decide_eq_false c4
    clear c4
    obtain rfl:=Option.some.inj H
    go_wp2
    go_ret
    exact ⟨rE,by repeat (first|(with_reducible first|exact HB.out|apply below_alloc|apply pw_below_drewN|apply below_drew1|refine below_set ?_ d2.out)|exact HB.out)⟩
mutual
def nodeset_Of.l0:Nat→Int→List Int→Int→Int→Option (Int × Int)
 | 0,_,_,_,_=>none
 | k + 1,x4,x7,x8,x9=>if x9 < x8 then (if 0≤x9 then (if x9 < (x7.length:Int) then (if (rd x7 x9) < 0 then (nodeset_Of.j1 k x4 (rd x7 x9) x7 x8 x9 true) else (nodeset_Of.j1 k x4 (rd x7 x9) x7 x8 x9 (decide ((rd x7 x9)≥10)))) else (none)) else (none)) else (some (x4,0))
def nodeset_Of.j1:Nat→Int→Int→List Int→Int→Int→Bool→Option (Int × Int)
 | 0,_,_,_,_,_,_=>none
 | k + 1,x4,x6,x7,x8,x9,b7=>if b7=true then (some (0,5)) else ((nodeset_Has.f x4 x6).bind fun a4=>(if a4=true then (some (0,6)) else (if 0≤x6 then (nodeset_Of.l0 k (Go.bits .or .i64 x4 (shl .i64 1 x6)) x7 x8 (wrap64 (x9 + 1))) else (none))))
end
def nodeset_Of.f (k:Nat) (l0:List Int):Option (Int × Int):=nodeset_Of.l0 k 0 l0 (l0.length:Int) 0
theorem nodeset_Of.mono_l:∀ k,(∀ y0 y1 y2 y3,LeO (nodeset_Of.l0 k y0 y1 y2 y3) (nodeset_Of.l0 (k + 1) y0 y1 y2 y3))∧(∀ y0 y1 y2 y3 y4 y5,LeO (nodeset_Of.j1 k y0 y1 y2 y3 y4 y5) (nodeset_Of.j1 (k + 1) y0 y1 y2 y3 y4 y5))
 | 0=>⟨fun _ _ _ _ r h=>by simp [nodeset_Of.l0] at h,fun _ _ _ _ _ _ r h=>by simp [nodeset_Of.j1] at h⟩
 | k + 1=>by
  obtain ⟨a5,a6⟩:=nodeset_Of.mono_l k
  refine ⟨?_,?_⟩
  ·intro y0 y1 y2 y3
   unfold nodeset_Of.l0
   repeat' first
   | (with_reducible exact a5 _ _ _ _)
   | (with_reducible exact a6 _ _ _ _ _ _)
   | (with_reducible exact LeO.refl _)
   | (with_reducible exact LeO.none _)
   | (with_reducible refine LeO.ite ?_ ?_)
   | (with_reducible refine LeO.bind ?_ (fun _=>?_))
  ·intro y0 y1 y2 y3 y4 y5
   unfold nodeset_Of.j1
   repeat' first
   | (with_reducible exact a5 _ _ _ _)
   | (with_reducible exact a6 _ _ _ _ _ _)
   | (with_reducible exact LeO.refl _)
   | (with_reducible exact LeO.none _)
   | (with_reducible refine LeO.ite ?_ ?_)
   | (with_reducible refine LeO.bind ?_ (fun _=>?_))
theorem nodeset_Of.mono:∀ a0 k,LeO (nodeset_Of.f k a0) (nodeset_Of.f (k + 1) a0):=by
 intro a0 k
 obtain ⟨a5,a6⟩:=nodeset_Of.mono_l k
 unfold nodeset_Of.f
 repeat' first
   | (with_reducible exact a5 _ _ _ _)
   | (with_reducible exact a6 _ _ _ _ _ _)
   | (with_reducible exact LeO.refl _)
   | (with_reducible exact LeO.none _)
   | (with_reducible refine LeO.ite ?_ ?_)
   | (with_reducible refine LeO.bind ?_ (fun _=>?_))
set_option maxHeartbeats 8000000 in
set_option maxRecDepth 100000 in
theorem nodeset_Of.calls (k:Nat) (A0:Option Addr) (c0:Nat) (l0:List Int) (r1:Int) (r2:Int) (w:World) (b3:Kd.C (Kd.int .i64) w A0 l0.length l0) (b4:l0.length≤c0) (h:nodeset_Of.f k l0=some (r1,r2)) :
  Calls Try.prog 36 #[.slice A0 l0.length c0] w fun e w'=>e = .returned (.tuple #[.int .i64 r1,.int .i64 r2])∧Drawn0 w w':=by
 have b8:=Aside0.mk b3
 have d3:=Aside0.mk b4
 clear b3 b4
 have H:(nodeset_Of.l0 k 0 l0 (l0.length:Int) 0)=some (r1,r2):=h
 clear h
 have H':=Aside0.mk H
 clear H
 go_enter Try.func36,Try.ntmps36
 go_wp2
 go_loopg [4,9] k (fun kq v4 v9 w'=>∃ (a2:Int) (a1:Int),v4 = .int .i64 a2∧v9 = .int .i64 a1∧Aside0 (nodeset_Of.l0 kq a2 l0 (l0.length:Int) a1=some (r1,r2))∧Aside0 (kq≤k)∧Drawn0 w w')
 case atStart=>exact ⟨(0),(0),tz3,tz3,H',⟨Nat.le_refl _⟩,by repeat (first|exact Drawn0.refl _|apply Drawn0.step)⟩
 case round=>
  clear H'
  obtain ⟨a2,a1,rfl,rfl,HA,a7,⟨m1,rfl⟩⟩:=hrel
  cases gk with
  | zero=>exact absurd HA.out (by simp [nodeset_Of.l0])
  | succ k1=>
   have H:=HA.out
   clear HA
   simp only [nodeset_Of.l0] at H
   by_cases c2:a1 < (l0.length:Int)
   ·rw [if_pos c2] at H
    have b5:decide (a1 < (l0.length:Int))=true:=decide_eq_true c2
    clear c2
    by_cases c3:0≤a1
    ·rw [if_pos c3] at H
     have b9:decide (0≤a1)=true:=decide_eq_true c3
     clear c3
     by_cases c4:a1 < (l0.length:Int)
     ·rw [if_pos c4] at H
      have c1:decide (a1 < (l0.length:Int))=true:=decide_eq_true c4
      clear c4
      have b1:=Aside0.mk H
      clear H
      have a8:0≤(a1:Int):=of_decide_eq_true tz2
      have a9:a1 < (l0.length:Int):=of_decide_eq_true tz2
      obtain ⟨d4,d0,d1⟩:=Kd.at_int b8.out a1 a8 a9
      cases d0
      replace a8:=eq_true a8
      replace a9:=eq_true a9
      go_upto_region 5 with (fail)
      go_cut [18] (fun d2 wc=>∃ (kq:Nat) (b0:Bool),d2 = .bool b0∧Aside0 (nodeset_Of.j1 kq a2 (rd l0 a1) l0 (l0.length:Int) a1 b0=some (r1,r2))∧Aside0 (kq≤k1)∧Drawn0 w wc)
      case first=>
       have H:=b1.out
       clear b1
       by_cases c6:(rd l0 a1) < 0
       ·rw [if_pos c6] at H
        have a3:decide ((rd l0 a1) < 0)=true:=decide_eq_true c6
        clear c6
        (first|rw [a3] | (simp only [i64_w,i32_w];rw [a3])|skip)
        have H':=Aside0.mk H
        clear H
        go_wp2
        go_meet
        case rel=>exact ⟨_,(true),tz3,H',⟨by have:=a7.out;first|omega|exact Nat.le_refl _⟩,by repeat (first|exact Drawn0.refl _|apply Drawn0.step)⟩
       ·rw [if_neg c6] at H
        have a3:decide ((rd l0 a1) < 0)=false:=decide_eq_false c6
        clear c6
        (first|rw [a3] | (simp only [i64_w,i32_w];rw [a3])|skip)
        have H':=Aside0.mk H
        clear H
        go_wp2
        go_meet
        case rel=>exact ⟨_,(decide ((rd l0 a1)≥10)),tz3,H',⟨by have:=a7.out;first|omega|exact Nat.le_refl _⟩,by repeat (first|exact Drawn0.refl _|apply Drawn0.step)⟩
      case rest=>
       clear b1
       try clear c2
       try clear b5
       try clear c3
       try clear b9
       try clear c4
       try clear c1
       try clear c6
       try clear a3
       try clear d1
       try clear a8
       try clear a9
       obtain ⟨kq,b0,rfl,HA,HJ4,⟨mc4,rfl⟩⟩:=hcut
       cases kq with
       | zero=>exact absurd HA.out (by simp [nodeset_Of.j1])
       | succ b2=>
        have H:=HA.out
        clear HA
        simp only [nodeset_Of.j1] at H
        by_cases c7:b0=true
        ·subst c7
         rw [if_pos rfl] at H
         simp only [Option.some.injEq,Prod.mk.injEq] at H
         obtain ⟨rfl,rfl⟩:=H
         go_wp2
         go_ret2
         exact ⟨by first|rfl|(simp;done)|(simp [*];done),by repeat (first|exact Drawn0.refl _|apply Drawn0.step)⟩
        ·replace c7:=Bool.eq_false_iff.mpr c7
         subst c7
         rw [if_neg (show ¬ (false=true) by decide)] at H
         replace H:=Option.bind_eq_some_iff.mp H
         obtain ⟨a4,b6,H⟩:=H
         replace H:(if a4=true then (some (0,6)) else (if 0≤(rd l0 a1) then (nodeset_Of.l0 b2 (Go.bits .or .i64 a2 (shl .i64 1 (rd l0 a1))) l0 (l0.length:Int) (wrap64 (a1 + 1))) else (none)))=some (r1,r2):=H
         have A8:=Aside0.mk b6
         clear b6
         by_cases c9:a4=true
         ·subst c9
          rw [if_pos rfl] at H
          simp only [Option.some.injEq,Prod.mk.injEq] at H
          obtain ⟨rfl,rfl⟩:=H
          go_wp2_with (first|((with_reducible refine gate_callee (f:=46) rfl ?_);refine goesL_ (some 21) rfl rfl Try.func46 (by kernel_rfl) rfl #[.int .i64 a2,.int .i64 (rd l0 a1)] rfl tz0 ?_;(with_reducible refine (nodeset_Has.calls a2 (rd l0 a1) true _ A8.out).mono ?_);rintro e w' ⟨rfl,⟨nd,rfl⟩⟩;refine ⟨_,rfl,?_⟩))
          go_ret2
          exact ⟨by first|rfl|(simp;done)|(simp [*];done),by repeat (first|exact Drawn0.refl _|apply Drawn0.step)⟩
         ·replace c9:=Bool.eq_false_iff.mpr c9
          subst c9
          rw [if_neg (show ¬ (false=true) by decide)] at H
          by_cases c10:0≤(rd l0 a1)
          ·rw [if_pos c10] at H
           have d5:=eq_true c10
           have d6:decide (0≤(rd l0 a1))=true:=decide_eq_true c10
           clear c10
           obtain ⟨ji11,hji11⟩:∃ j_:Int,(shl .i64 1 (rd l0 a1))=j_:=⟨_,rfl⟩
           replace H:(nodeset_Of.l0 b2 (Go.bits .or .i64 a2 (ji11)) l0 (l0.length:Int) (wrap64 (a1 + 1)))=some (r1,r2):=by first|(rw [hji11] at H;exact H)|(simp only [hji11] at H ⊢;exact H)
           (try rw [hji11] at A8)
           have hji11_:(IntKind.i64.wrap (1 * 2 ^ min (rd l0 a1).toNat 64))=ji11:=hji11
           have hji11z:(rd l0 a1)≤64→(IntKind.i64.wrap (1 * 2 ^ (rd l0 a1).toNat))=ji11:=shl_small hji11
           have hji11u:(IntKind.i64.wrap (2 ^ min (rd l0 a1).toNat 64))=ji11:=by have h_:=hji11_;rw [Int.one_mul] at h_;exact h_
           have hji11v:(rd l0 a1)≤64→(IntKind.i64.wrap (2 ^ (rd l0 a1).toNat))=ji11:=fun hle_=>by have h_:=hji11z hle_;rw [Int.one_mul] at h_;exact h_
           have hji11y:(wrap64 (1 * 2 ^ min (rd l0 a1).toNat 64))=ji11:=(i64_w _).symm.trans hji11_
           have hji11x:(rd l0 a1)≤64→(wrap64 (1 * 2 ^ (rd l0 a1).toNat))=ji11:=fun h_=>(i64_w _).symm.trans (hji11z h_)
           have H':=Aside0.mk H
           clear H
           go_wp2_with (first|((with_reducible refine gate_callee (f:=46) rfl ?_);refine goesL_ (some 21) rfl rfl Try.func46 (by kernel_rfl) rfl #[.int .i64 a2,.int .i64 (rd l0 a1)] rfl tz0 ?_;(with_reducible refine (nodeset_Has.calls a2 (rd l0 a1) false _ A8.out).mono ?_);rintro e w' ⟨rfl,⟨nd,rfl⟩⟩;refine ⟨_,rfl,?_⟩))
           go_roundg b2
           case measure=>have:=a7.out;have:=HJ4.out;omega
           case rel=>exact ⟨(Go.bits .or .i64 a2 (ji11)),(wrap64 (a1 + 1)),(by first|rfl|(simp;done)|(simp only [← hji11] <;> (first|rfl|simp))|(simp [*];done)),tz3,H',⟨by have:=a7.out;have:=HJ4.out;omega⟩,by repeat (first|exact Drawn0.refl _|apply Drawn0.step)⟩
          ·rw [if_neg c10] at H
           exact absurd H (by simp)
     ·rw [if_neg c4] at H
      exact absurd H (by simp)
    ·rw [if_neg c3] at H
     exact absurd H (by simp)
   ·rw [if_neg c2] at H
    have b5:decide (a1 < (l0.length:Int))=false:=decide_eq_false c2
    clear c2
    simp only [Option.some.injEq,Prod.mk.injEq] at H
    obtain ⟨rfl,rfl⟩:=H
    go_wp2
    go_ret2
    exact ⟨by first|rfl|(simp;done)|(simp [*];done),by repeat (first|exact Drawn0.refl _|apply Drawn0.step)⟩
end Go.Proofs.Ytnkpakakgfkpbaa.P
end
