import Derived.Test.YtnkpakakgfkpbaaM0
import Derived.Lib.RowBridge
set_option linter.unusedVariables false
set_option linter.unusedSimpArgs false
section
namespace Go.Proofs.Ytnkpakakgfkpbaa.P
open Go.RowKit Go.Proofs.YtnkpakakgfkpbaaW.PrintWords Go.Proofs.YtnkpakakgfkpbaaW.PrintLast Go.Proofs.YtnkpakakgfkpbaaW.PrintMore
attribute [local go_sem] max2_int max_two binOp_string_gtr_pp
def slices_Clone_int_int.f (l0:List Int):Option (List Int):=(some (([]:List Int):List Int)).bind fun a0=>(if a0.length + l0.length < 17592186044416 then (some (a0 ++ l0)) else (none))
set_option maxHeartbeats 8000000 in
set_option maxRecDepth 100000 in
theorem slices_Clone_int_int.calls0 (a7:Addr) (c0:Nat) (l0:List Int) (r:List Int) (w:World) (a1:Kd.C (Kd.int .i64) w (some a7) l0.length l0) (a4:l0.length≤c0) (h:slices_Clone_int_int.f l0=some r) :
  Calls Try.prog 37 #[.slice (some a7) l0.length c0] w fun e w'=>∃ a2:Value,e = .returned (a2)∧Kd.R (Kd.int .i64) 3 w' w.heap.size (fun _=>True) a2 r∧Below w.heap.size w w':=by
 have q_:∀ (w:World) (a:Option Addr) (n c n' c':Nat),(binOp .eql 27 (.slice a n c) (.slice none n' c')).run Try.prog w = .ok (.bool a.isNone) w:=fun w a n c n' c'=>Lib.run_eql_slice_nil w _ _ a n c n' c' Try.underlying27
 have b0:=Aside0.mk a1
 have b5:=Aside0.mk a4
 clear a1 a4
 have HB:=Aside0.mk (Below.refl w.heap.size w)
 have H:((some (([]:List Int):List Int)).bind fun a0=>(if a0.length + l0.length < 17592186044416 then (some (a0 ++ l0)) else (none)))=some r:=h
 clear h
 obtain ⟨a0,a5⟩:∃ y_:List Int,y_=(([]:List Int)):=⟨_,rfl⟩
 replace H:(if a0.length + l0.length < 17592186044416 then (some (a0 ++ l0)) else (none))=some r:=rH a5 H
 have a8:=Aside0.mk a5
 clear a5
 by_cases c2:a0.length + l0.length < 17592186044416
 ·rw [if_pos c2] at H
  have LMc2:=Aside0.mk c2
  clear c2
  obtain ⟨b1,a6⟩:∃ y_:List Int,y_=(a0 ++ l0):=⟨_,rfl⟩
  replace H:(some b1)=some r:=rH a6 H
  have b2:=Aside0.mk a6
  clear a6
  obtain rfl:=Option.some.inj H
  go_enter Try.func37,Try.ntmps37
  go_wp2_with (first|((with_reducible refine gate_dst (N:=5) rfl ?_);refine Kd.R_lit (Kd.int .i64) _ 3 ?hg (N:=5) ?hd (xs:=([]:List Int)) (inner:=[]) (ok:=fun _=>True) (okp:=fun _=>True) ?hr ?hp (fun _ hk=>hk) trivial (Below.refl _ _) (Nat.le_refl _) (by simp) ?_;(case hd=>rfl);(case hg=>rfl);(case hr=>first|(go_simp;done)|(go_simp;rfl));(case hp=>exact (Reps.none _ _));intro b3 w3 a3 hb hg_ hnew_;clear hg_ hnew_;(first|rw [← a8.out] at a3|(simp only [Int.reduceToNat] at a3;rw [← a8.out] at a3));refine ap2 (Kd.R_lower a3 (below_size (belowP HB))) (below_step (belowP HB) hb) ?_;clear HB;intro a9 HB;clear hb a3)|((with_reducible refine gate_builtin (b:=.append) (xs:=#[.tmp 5,.tmp 6]) rfl ?_);at_builtin;refine Kd.R_append_rows (Kd.int .i64) (w0:=w) w.heap.size rfl (.tmp 5) (.tmp 6) 27 3 (.int .i64 0) 8 rfl Try.underlying27 info3 rfl (by decide) (by omega) b3 a0 l0 _ _ _ (fun _=>True) (fun _=>False) rfl rfl ?aO ?aR (fun _ _ h=>h) (fun _ h=>h.elim) ?aF ?aB ?aS ?aL ?_;(case aR=>exact Kd.C_q (Kd.C_below b0.out HB.out));(case aB=>exact (belowP HB));(case aF=>exact (fun _ _=>trivial));(case aO=>exact (Kd.R_q a9.out));(case aS=>exact (below_size (belowP HB)));(case aL=>have:=LMc2.out;omega);intro b6 w5 ho hb hg hat;rw [← b2.out] at ho;refine ap2 (hb) (ho) ?_;clear HB a9;intro HB b4;clear ho hb hg hat))
  go_ret
  exact ⟨_,rE,by refine Kd.R_q ?_;exact b4.out,by repeat (first|(with_reducible first|exact HB.out|apply below_alloc|apply pw_below_drewN|apply below_drew1)|exact HB.out)⟩
 ·rw [if_neg c2] at H
  exact absurd H (by simp)
set_option maxHeartbeats 8000000 in
set_option maxRecDepth 100000 in
theorem slices_Clone_int_int.calls (A0:Option Addr) (c0:Nat) (l0:List Int) (r:List Int) (w:World) (a1:Kd.C (Kd.int .i64) w A0 l0.length l0) (a4:l0.length≤c0) (h:slices_Clone_int_int.f l0=some r) :
  Calls Try.prog 37 #[.slice A0 l0.length c0] w fun e w'=>∃ a2:Value,e = .returned (a2)∧Kd.R (Kd.int .i64) 3 w' w.heap.size (fun _=>True) a2 r∧Below w.heap.size w w':=by
 cases A0 with
 | some ad=>exact slices_Clone_int_int.calls0 ad c0 l0 r w a1 a4 h
 | none=>
  have hl:l0 = []:=by
   rcases Nat.eq_zero_or_pos l0.length with h0|h0
   ·exact List.eq_nil_of_length_eq_zero h0
   ·obtain ⟨ad,e_,_⟩:=(a1).2.2 h0
    cases e_
  subst hl
  obtain rfl:r = []:=by
   simp [slices_Clone_int_int.f] at h
   first|exact h|exact h.symm
  have q_:∀ (w:World) (a:Option Addr) (n c n' c':Nat),(binOp .eql 27 (.slice a n c) (.slice none n' c')).run Try.prog w = .ok (.bool a.isNone) w:=fun w a n c n' c'=>Lib.run_eql_slice_nil w _ _ a n c n' c' Try.underlying27
  have hB:=Below.refl w.heap.size w
  clear h
  go_enter Try.func37,Try.ntmps37
  go_wp2
  go_ret
  exact ⟨_,rfl,Kd.R_nil _ _ _ _ _,hB⟩
mutual
def nomination_trust.l0:Nat→List (S30)→Int→Int→Int→List Int→List (S30)→Option (Int × List Int × (List (S30)))
 | 0,_,_,_,_,_,_=>none
 | k + 1,g1,j8,e6,j9,k0,h3=>if e6 < j8 then (if 0≤e6 then (if e6 < (g1.length:Int) then ((nomination_trust.f k ((rd_T30 g1 e6).f0) ((rd_T30 g1 e6).f1) ((rd_T30 g1 e6).f2)).bind fun h4=>(if h3.length < 2513169434916 then (nomination_trust.l0 k g1 j8 (wrap64 (e6 + 1)) j9 k0 (h3 ++ [(⟨h4.1,h4.2.1,h4.2.2⟩:S30)])) else (none))) else (none)) else (none)) else (some (j9,k0,h3))
def nomination_trust.f:Nat→Int→List Int→List (S30)→Option (Int × List Int × (List (S30)))
 | 0,_,_,_=>none
 | k + 1,b2,b7,a3=>(slices_Clone_int_int.f b7).bind fun b1=>(nomination_trust.l0 k a3 (a3.length:Int) 0 b2 b1 ([]:List (S30)))
end
theorem nomination_trust.mono_l:∀ k,(∀ y0 y1 y2,LeO (nomination_trust.f k y0 y1 y2) (nomination_trust.f (k + 1) y0 y1 y2))∧(∀ y0 y1 y2 y3 y4 y5,LeO (nomination_trust.l0 k y0 y1 y2 y3 y4 y5) (nomination_trust.l0 (k + 1) y0 y1 y2 y3 y4 y5))
 | 0=>⟨fun _ _ _ r h=>by simp [nomination_trust.f] at h,fun _ _ _ _ _ _ r h=>by simp [nomination_trust.l0] at h⟩
 | k + 1=>by
  obtain ⟨g4,h5⟩:=nomination_trust.mono_l k
  refine ⟨?_,?_⟩
  ·intro y0 y1 y2
   unfold nomination_trust.f
   repeat' first
   | (with_reducible exact g4 _ _ _)
   | (with_reducible exact h5 _ _ _ _ _ _)
   | (with_reducible exact LeO.refl _)
   | (with_reducible exact LeO.none _)
   | (with_reducible refine LeO.ite ?_ ?_)
   | (with_reducible refine LeO.bind ?_ (fun _=>?_))
  ·intro y0 y1 y2 y3 y4 y5
   unfold nomination_trust.l0
   repeat' first
   | (with_reducible exact g4 _ _ _)
   | (with_reducible exact h5 _ _ _ _ _ _)
   | (with_reducible exact LeO.refl _)
   | (with_reducible exact LeO.none _)
   | (with_reducible refine LeO.ite ?_ ?_)
   | (with_reducible refine LeO.bind ?_ (fun _=>?_))
theorem nomination_trust.mono:∀ a0 a1 a2 k,LeO (nomination_trust.f k a0 a1 a2) (nomination_trust.f (k + 1) a0 a1 a2):=by
 intro a0 a1 a2 k
 obtain ⟨g4,h5⟩:=nomination_trust.mono_l k
 exact g4 a0 a1 a2
def nomination_trust.T1:Bool × List (List Nat × List Nat):=(true,[([],[]),([0],[0]),([],[]),([2],[2]),([3],[3]),([1,4],[1,4]),([],[]),([6,5,4,0,1,2,3,4,5,6],[5,6])])
def nomination_trust.B1:List Nat:=[0,1,0,4,12,31,0,127]
theorem nomination_trust.tab1:rtab .any (opsOf Try.f20 1)=nomination_trust.T1:=by kernel_rfl
theorem nomination_trust.bits1:waitsOk nomination_trust.T1.2 nomination_trust.B1=true:=by kernel_rfl
def nomination_trust.T5:Bool × List (List Nat × List Nat):=(true,[([],[]),([0],[0]),([],[]),([2],[2]),([3],[3]),([1,4,3],[1,4]),([0,1,2,3,4,5],[]),([6,5,5,0,1,2,3,4,5],[5,6])])
def nomination_trust.B5:List Nat:=[0,1,0,4,12,31,63,127]
theorem nomination_trust.tab5:rtab .any (opsOf Try.f20 5)=nomination_trust.T5:=by kernel_rfl
theorem nomination_trust.bits5:waitsOk nomination_trust.T5.2 nomination_trust.B5=true:=by kernel_rfl
set_option maxHeartbeats 8000000 in
set_option maxRecDepth 100000 in
theorem nomination_trust.calls (k:Nat):∀ (b2:Int) (d1:Option Addr) (d2:Nat) (b7:List Int) (e0:Option Addr) (d7:Nat) (a3:List (S30)) (r1:Int) (r2:List Int) (r3:List (S30)) (w:World) (h6:Kd.C (Kd.int .i64) w d1 b7.length b7) (h7:b7.length≤d2) (h8:Kd.C k30 w e0 a3.length a3) (h9:a3.length≤d7) (h:nomination_trust.f k b2 b7 a3=some (r1,r2,r3)),
  Calls Try.prog 20 #[.agg #[.int .i64 b2,.slice d1 b7.length d2,.slice e0 a3.length d7]] w fun e w'=>∃ i0 k2:Value,e = .returned (.agg #[.int .i64 r1,i0,k2])∧Kd.R (Kd.int .i64) 3 w' w.heap.size (fun _=>True) i0 r2∧Kd.R k30 30 w' w.heap.size (fun k_=>some k_≠(i0:Value).ownBlock) k2 r3∧Below w.heap.size w w':=by
 induction k using Nat.strongRecOn with
 | _ k ih=>
 intro b2 d1 d2 b7 e0 d7 a3 r1 r2 r3 w h6 h7 h8 h9 h
 cases k with
 | zero=>exact absurd h (by simp [nomination_trust.f])
 | succ k=>
 simp only [nomination_trust.f] at h
 have hu30:=Try.underlying30
 have k3:=Aside0.mk h6
 have k4:=Aside0.mk h7
 clear h6 h7
 have m8:=Aside0.mk h8
 have p7:=Aside0.mk h9
 clear h8 h9
 have HB:=Aside0.mk (Below.refl w.heap.size w)
 have H:((slices_Clone_int_int.f b7).bind fun b1=>(nomination_trust.l0 k a3 (a3.length:Int) 0 b2 b1 ([]:List (S30))))=some (r1,r2,r3):=h
 clear h
 replace H:=Option.bind_eq_some_iff.mp H
 obtain ⟨b1,g5,H⟩:=H
 replace H:(nomination_trust.l0 k a3 (a3.length:Int) 0 b2 b1 ([]:List (S30)))=some (r1,r2,r3):=H
 have A2:=Aside0.mk g5
 clear g5
 have H':=Aside0.mk H
 clear H
 go_enter Try.func20,Try.ntmps20
 try go_wp2_with (first|((with_reducible refine gate_dst (N:=1) rfl ?_);refine box_event ?hg (N:=1) ?hd (cs:=#[.int .i64 b2,.slice d1 b7.length d2,.slice e0 a3.length d7]) (t:=30) ?hr ?_;(case hd=>rfl);(case hg=>rfl);(case hr=>first|(go_simp;done)|(go_simp;rfl));intro b3 hg w3 hbox hb;refine ap4 (below_step (belowP HB) hb) (hbox) ((by rw [hg];exact (below_size (belowP HB)):w.heap.size≤b3)) ((by rw [hg];exact (below_size (belowP HB)):w.heap.size≤b3)) ?_;clear HB;intro HB a4 GW148 g6;clear hb hbox hg)|((with_reducible refine gate_dst (N:=2) rfl ?_);refine box_event ?hg (N:=2) ?hd (cs:=#[.int .i64 0,.slice none 0 0,.slice none 0 0]) (t:=30) ?hr ?_;(case hd=>rfl);(case hg=>rfl);(case hr=>first|(go_simp;done)|(go_simp;rfl));intro b4 hg w4 hbox hb;refine ap7 (blk_below (blkP a4) hb) (below_step (belowP HB) hb) (hbox) ((by rw [hg];exact (below_size (belowP HB)):w.heap.size≤b4)) ((by rw [hg];exact (below_size (belowP HB)):w.heap.size≤b4)) ((by rw [hg];exact Nat.ne_of_lt (blk_lt (blkP a4)):b3≠b4)) ((by rw [hg];exact Nat.ne_of_gt (blk_lt (blkP a4)):b4≠b3)) ?_;clear a4 HB;intro a4 HB a7 GW149 g7 k5 k6;clear hb hbox hg))
 refine ap3 (blk_drew a4.out) (blk_drew a7.out) (below_drew1 HB.out) ?_
 clear a4 a7 HB
 intro a4 a7 HB
 refine start_ (n:=8) (S:=fun w'=>w'.cell? ⟨b3,0,none⟩=some (.int .i64 b2)∧w'.cell? ⟨b3,1,none⟩=some (.slice d1 b7.length d2)∧w'.cell? ⟨b3,2,none⟩=some (.slice e0 a3.length d7)) (ds:=[]) #[false,false,false,false,false,false,false,false] (by kernel_rfl) rfl rfl ⟨(blk_cell a4.out 0).trans rfl,(blk_cell a4.out 1).trans rfl,(blk_cell a4.out 2).trans rfl⟩ (fun hHeld=>?_);refine with_tabW nomination_trust.tab1 nomination_trust.bits1 (fun HT_ HW_=>?_)
 generalize w4.drew=w5 at a4 a7 HB hHeld ⊢
 refine pure_ (i:=0) (N:=some 6) #[true,false,false,false,false,false,false,false] rfl rfl (any_of HT_.out (by kernel_rfl)) (fun _ _ _ h=>h) (Or.inl ⟨by rfl,tz4⟩) tz1 ?_
 refine pure_ (i:=2) (N:=some 8) #[true,false,true,false,false,false,false,false] rfl rfl (any_of HT_.out (by kernel_rfl)) (fun _ _ _ h=>h) (Or.inl ⟨by rfl,tz4⟩) tz1 ?_
 refine take_ (i:=1) (N:=some 7) #[true,true,true,false,false,false,false,false] rfl rfl (take_ofW HT_.out HW_.out (by kernel_rfl)) (fun _ _ _ h=>h) (Or.inl ⟨by rfl,(by rintro w' ⟨s0,s1,s2⟩;go_simp;with_reducible rfl)⟩) hHeld tz1 ?_
 refine take_ (i:=3) (N:=some 9) #[true,true,true,true,false,false,false,false] rfl rfl (take_ofW HT_.out HW_.out (by kernel_rfl)) (fun _ _ _ h=>h) (Or.inl ⟨by rfl,(by rintro w' ⟨s0,s1,s2⟩;go_simp;with_reducible rfl)⟩) hHeld tz1 ?_
 refine join_ (σ:=Value × Nat) 1 #[true,true,true,true,true,true,true,false] (fun s_=>[(10,s_.1),(3,.pointer (some ⟨s_.2,0,none⟩)),(11,.agg #[.int .i64 b2,s_.1,.slice none 0 0])]) (fun s_ w'=>(w'.cell? ⟨b3,0,none⟩=some (.int .i64 b2)∧w'.cell? ⟨b3,1,none⟩=some (.slice d1 b7.length d2)∧w'.cell? ⟨b3,2,none⟩=some (.slice e0 a3.length d7))∧(Kd.R (Kd.int .i64) 3 w' w.heap.size (fun _=>True) s_.1 b1)∧(w'.heap[b3]? = some (.cells #[.int .i64 b2,.slice d1 b7.length d2,.slice e0 a3.length d7] 30 (0,0)))∧(w'.heap[b4]? = some (.cells #[.int .i64 0,.slice none 0 0,.slice none 0 0] 30 (0,0)))∧(w'.heap[s_.2]? = some (.cells #[.int .i64 0,.slice none 0 0,.slice none 0 0] 30 (0,0)))∧(w.heap.size≤s_.2)∧(w.heap.size≤s_.2)∧(b3≠s_.2)∧(s_.2≠b3)∧(b4≠s_.2)∧(s_.2≠b4)∧(Below w.heap.size w w')) ?_ ?_
 rotate_left
 ·intro hCont
  refine two_ (i:=4) (j:=6) (Ni:=some 10) (Nj:=some 3) #[true,true,true,true,true,false,false,false] #[true,true,true,true,false,false,true,false] rfl rfl rfl rfl (two_of HT_.out (by kernel_rfl)) (by decide) (by decide) (fun K hK=>?_) (fun K hK=>?_)
  ·skip
   refine goes_ Try.func37 (by kernel_rfl) rfl #[.slice d1 b7.length d2] (by rfl) rfl rfl tz0 ?_
   with_reducible refine (slices_Clone_int_int.calls _ _ b7 b1 _ ?side1 ?side2 A2.out).mono ?_
   (case side1=>exact Kd.C_q (Kd.C_below k3.out HB.out))
   (case side2=>exact k4.out)
   rintro e w6 ⟨i1,rfl,e1,hb⟩
   refine ⟨_,rfl,?_⟩
   refine ap4 (Kd.R_lower e1 (below_size (belowP HB))) (blk_below (blkP a4) hb) (blk_below (blkP a7) hb) (below_step (belowP HB) hb) ?_
   clear a4 a7 HB
   intro d8 a4 a7 HB
   (try clear hb)
   (try clear hb2)
   (try clear hk)
   (try clear hi)
   (try clear e1)
   obtain ⟨m9,n0,k7⟩:=Kd.R_slice d8.out
   (first|subst k7|(injection k7 with f1_ f2_ f3_;have f4_:=f1_.symm;have f5_:=f3_.symm;clear f1_ f2_ f3_;subst f4_;subst f5_))
   refine hK.out _ _ ⟨(blk_cell a4.out 0).trans rfl,(blk_cell a4.out 1).trans rfl,(blk_cell a4.out 2).trans rfl⟩ (fun hHeld=>?_)
   clear hK K
   refine norm_ (a':=?_) ?_ ?_
   rotate_left
   ·show Act.put _ (some 10) _=_
    simp only [Act.put,List.setIfInBounds_toArray,List.set_cons_zero,List.set_cons_succ,i64_w,i32_w]
    rfl
   refine pure_ (i:=5) (N:=some 11) #[true,true,true,true,true,true,false,false] rfl rfl (any_of HT_.out (by kernel_rfl)) (fun _ _ _ h=>h) (Or.inl ⟨by rfl,tz4⟩) tz1 ?_
   refine one_ (i:=6) (N:=some 3) #[true,true,true,true,true,true,true,false] rfl rfl (one_of HT_.out (by kernel_rfl)) (by decide) (fun K hK=>?_)
   refine box_step ?hg (N:=3) ?hd (cs:=#[.int .i64 0,.slice none 0 0,.slice none 0 0]) (t:=30) ?hr ?_;(case hd=>rfl);(case hg=>rfl);(case hr=>first|(go_simp;done)|(go_simp;rfl))
   intro a8 hg w8 hbox hb
   refine ap11 (Kd.R_below (Kd.R_q d8.out) hb) (blk_below (blkP a4) hb) (blk_below (blkP a7) hb) (below_step (belowP HB) hb) (hbox) ((by rw [hg];exact (below_size (belowP HB)):w.heap.size≤a8)) ((by rw [hg];exact (below_size (belowP HB)):w.heap.size≤a8)) ((by rw [hg];exact Nat.ne_of_lt (blk_lt (blkP a4)):b3≠a8)) ((by rw [hg];exact Nat.ne_of_gt (blk_lt (blkP a4)):a8≠b3)) ((by rw [hg];exact Nat.ne_of_lt (blk_lt (blkP a7)):b4≠a8)) ((by rw [hg];exact Nat.ne_of_gt (blk_lt (blkP a7)):a8≠b4)) ?_
   clear d8 a4 a7 HB
   intro d8 a4 a7 HB a6 GW153 e5 b6 e2 d3 e4
   clear hb hbox hg
   refine hK.out _ _ ⟨(blk_cell a4.out 0).trans rfl,(blk_cell a4.out 1).trans rfl,(blk_cell a4.out 2).trans rfl⟩ (fun hHeld=>?_)
   clear hK K
   refine norm_ (a':=?_) ?_ ?_
   rotate_left
   ·show Act.put _ (some 3) _=_
    simp only [Act.put,List.setIfInBounds_toArray,List.set_cons_zero,List.set_cons_succ,i64_w,i32_w]
    rfl
   exact norm_ (by simp only [putAll,Act.put,List.setIfInBounds_toArray,List.set_cons_zero,List.set_cons_succ]) (hCont (.slice m9 b1.length n0,a8) _ ⟨hHeld,(Kd.R_q d8.out),(blkP a4),(blkP a7),(blkP a6),GW153.out,e5.out,b6.out,e2.out,d3.out,e4.out,(belowP HB)⟩)
  ·skip
   refine box_step ?hg (N:=3) ?hd (cs:=#[.int .i64 0,.slice none 0 0,.slice none 0 0]) (t:=30) ?hr ?_;(case hd=>rfl);(case hg=>rfl);(case hr=>first|(go_simp;done)|(go_simp;rfl))
   intro a8 hg w6 hbox hb
   refine ap10 (blk_below (blkP a4) hb) (blk_below (blkP a7) hb) (below_step (belowP HB) hb) (hbox) ((by rw [hg];exact (below_size (belowP HB)):w.heap.size≤a8)) ((by rw [hg];exact (below_size (belowP HB)):w.heap.size≤a8)) ((by rw [hg];exact Nat.ne_of_lt (blk_lt (blkP a4)):b3≠a8)) ((by rw [hg];exact Nat.ne_of_gt (blk_lt (blkP a4)):a8≠b3)) ((by rw [hg];exact Nat.ne_of_lt (blk_lt (blkP a7)):b4≠a8)) ((by rw [hg];exact Nat.ne_of_gt (blk_lt (blkP a7)):a8≠b4)) ?_
   clear a4 a7 HB
   intro a4 a7 HB a6 GW153 e5 b6 e2 d3 e4
   clear hb hbox hg
   refine hK.out _ _ ⟨(blk_cell a4.out 0).trans rfl,(blk_cell a4.out 1).trans rfl,(blk_cell a4.out 2).trans rfl⟩ (fun hHeld=>?_)
   clear hK K
   refine norm_ (a':=?_) ?_ ?_
   rotate_left
   ·show Act.put _ (some 3) _=_
    simp only [Act.put,List.setIfInBounds_toArray,List.set_cons_zero,List.set_cons_succ,i64_w,i32_w]
    rfl
   refine one_ (i:=4) (N:=some 10) #[true,true,true,true,true,false,true,false] rfl rfl (one_of HT_.out (by kernel_rfl)) (by decide) (fun K hK=>?_)
   refine goes_ Try.func37 (by kernel_rfl) rfl #[.slice d1 b7.length d2] (by rfl) rfl rfl tz0 ?_
   with_reducible refine (slices_Clone_int_int.calls _ _ b7 b1 _ ?side1 ?side2 A2.out).mono ?_
   (case side1=>exact Kd.C_q (Kd.C_below k3.out HB.out))
   (case side2=>exact k4.out)
   rintro e w7 ⟨i1,rfl,e1,hb⟩
   refine ⟨_,rfl,?_⟩
   refine ap5 (Kd.R_lower e1 (below_size (belowP HB))) (blk_below (blkP a4) hb) (blk_below (blkP a7) hb) (blk_below (blkP a6) hb) (below_step (belowP HB) hb) ?_
   clear a4 a7 a6 HB
   intro d8 a4 a7 a6 HB
   (try clear hb)
   (try clear hb2)
   (try clear hk)
   (try clear hi)
   (try clear e1)
   obtain ⟨n1,n2,k8⟩:=Kd.R_slice d8.out
   (first|subst k8|(injection k8 with f1_ f2_ f3_;have f4_:=f1_.symm;have f5_:=f3_.symm;clear f1_ f2_ f3_;subst f4_;subst f5_))
   refine hK.out _ _ ⟨(blk_cell a4.out 0).trans rfl,(blk_cell a4.out 1).trans rfl,(blk_cell a4.out 2).trans rfl⟩ (fun hHeld=>?_)
   clear hK K
   refine norm_ (a':=?_) ?_ ?_
   rotate_left
   ·show Act.put _ (some 10) _=_
    simp only [Act.put,List.setIfInBounds_toArray,List.set_cons_zero,List.set_cons_succ,i64_w,i32_w]
    rfl
   refine pure_ (i:=5) (N:=some 11) #[true,true,true,true,true,true,true,false] rfl rfl (any_of HT_.out (by kernel_rfl)) (fun _ _ _ h=>h) (Or.inl ⟨by rfl,tz4⟩) tz1 ?_
   exact norm_ (by simp only [putAll,Act.put,List.setIfInBounds_toArray,List.set_cons_zero,List.set_cons_succ]) (hCont (.slice n1 b1.length n2,a8) _ ⟨hHeld,(Kd.R_q d8.out),(blkP a4),(blkP a7),(blkP a6),GW153.out,e5.out,b6.out,e2.out,d3.out,e4.out,(belowP HB)⟩)
 rintro ⟨i1,a8⟩ w9 ⟨hS_,h0_,h1_,h2_,h3_,h4_,h5_,h6_,h7_,h8_,h9_,h10_⟩
 have e7:Aside0 (Kd.R (Kd.int .i64) 3 w9 w.heap.size (fun _=>True) i1 b1):=⟨h0_⟩
 have e8:Aside0 (w9.heap[b3]? = some (.cells #[.int .i64 b2,.slice d1 b7.length d2,.slice e0 a3.length d7] 30 (0,0))):=⟨h1_⟩
 have e9:Aside0 (w9.heap[b4]? = some (.cells #[.int .i64 0,.slice none 0 0,.slice none 0 0] 30 (0,0))):=⟨h2_⟩
 have f3:Aside0 (w9.heap[a8]? = some (.cells #[.int .i64 0,.slice none 0 0,.slice none 0 0] 30 (0,0))):=⟨h3_⟩
 have f4:Aside0 (w.heap.size≤a8):=⟨h4_⟩
 have f5:Aside0 (w.heap.size≤a8):=⟨h5_⟩
 have f6:Aside0 (b3≠a8):=⟨h6_⟩
 have k9:Aside0 (a8≠b3):=⟨h7_⟩
 have l3:Aside0 (b4≠a8):=⟨h8_⟩
 have l4:Aside0 (a8≠b4):=⟨h9_⟩
 have l5:Aside0 (Below w.heap.size w w9):=⟨h10_⟩
 clear a4 a7 HB h0_ h1_ h2_ h3_ h4_ h5_ h6_ h7_ h8_ h9_ h10_
 have d8:=e7
 have a4:=e8
 have a7:=e9
 have a6:=f3
 have GW153:=f4
 have e5:=f5
 have b6:=f6
 have e2:=k9
 have d3:=l3
 have e4:=l4
 have HB:=l5
 clear e7 e8 e9 f3 f4 f5 f6 k9 l3 l4 l5
 have hHeld:w9.cell? ⟨b3,0,none⟩=some (.int .i64 b2)∧w9.cell? ⟨b3,1,none⟩=some (.slice d1 b7.length d2)∧w9.cell? ⟨b3,2,none⟩=some (.slice e0 a3.length d7):=hS_
 obtain ⟨b9,c0,l6⟩:=Kd.R_slice d8.out
 (first|subst l6|(injection l6 with f1_ f2_ f3_;have f4_:=f1_.symm;have f5_:=f3_.symm;clear f1_ f2_ f3_;subst f4_;subst f5_))
 refine norm_ (a':=?_) ?_ ?_
 rotate_left
 ·simp only [putAll,Act.put,List.setIfInBounds_toArray,List.set_cons_zero,List.set_cons_succ]
  rfl
 refine one_ (i:=7) (N:=none) #[true,true,true,true,true,true,true,true] rfl rfl (one_of HT_.out (by kernel_rfl)) (by decide) (fun K hK=>?_)
 have p8:w9.cell? ⟨a8,0,none⟩=some (.int .i64 0):=(blk_cell a6.out 0).trans rfl
 have hfs11:=blk_frozen a6.out 0
 have hns11_0:=b6.out
 have hns11_1:=d3.out
 have hms11_0:=e2.out
 have hms11_1:=e4.out
 have p9:w9.cell? ⟨a8,1,none⟩=some (.slice none 0 0):=(blk_cell a6.out 1).trans rfl
 have hfs12:=blk_frozen a6.out 1
 have hns12_0:=b6.out
 have hns12_1:=d3.out
 have hms12_0:=e2.out
 have hms12_1:=e4.out
 have q0:w9.cell? ⟨a8,2,none⟩=some (.slice none 0 0):=(blk_cell a6.out 2).trans rfl
 have hfs13:=blk_frozen a6.out 2
 have hns13_0:=b6.out
 have hns13_1:=d3.out
 have hms13_0:=e2.out
 have hms13_1:=e4.out
 refine skip_ (w1:=?_) (by rfl) rfl ?_ ?_
 rotate_left
 ·go_simp
  rfl
 refine hK.out _ _ ⟨((cell_far (p:=⟨a8,_,none⟩) b6.out _).trans (((cell_far (p:=⟨a8,_,none⟩) b6.out _).trans (((cell_far (p:=⟨a8,_,none⟩) b6.out _).trans (hHeld.1)))))),((cell_far (p:=⟨a8,_,none⟩) b6.out _).trans (((cell_far (p:=⟨a8,_,none⟩) b6.out _).trans (((cell_far (p:=⟨a8,_,none⟩) b6.out _).trans (hHeld.2.1)))))),((cell_far (p:=⟨a8,_,none⟩) b6.out _).trans (((cell_far (p:=⟨a8,_,none⟩) b6.out _).trans (((cell_far (p:=⟨a8,_,none⟩) b6.out _).trans (hHeld.2.2))))))⟩ (fun hHeld=>?_)
 clear hK K
 refine done_ (done_of HT_.out (by kernel_rfl)) ?_
 have q1:=k5.out
 have q2:=k6.out
 have q3:=b6.out
 have q4:=e2.out
 obtain ⟨n3,n4,n5⟩:=cells3 a4.out
 obtain ⟨n6,n7,n8⟩:=froz3 a4.out
 try go_wp2
 go_loopg [15] k (fun kq n9 w'=>∃ (a5:Int) (d6:List (S30)) (e3:Value),n9 = .int .i64 a5∧Aside0 (nomination_trust.l0 kq a3 (a3.length:Int) a5 b2 b1 d6=some (r1,r2,r3))∧Aside0 (kq≤k)∧Aside0 (Kd.R (Kd.int .i64) 3 w' w.heap.size (fun _=>True) (.slice b9 b1.length c0) b1)∧Aside0 (Kd.R k30 30 w' w.heap.size (fun k_=>some k_≠((.slice b9 b1.length c0):Value).ownBlock∧k_≠b3∧k_≠b4∧k_≠a8) e3 d6)∧Aside0 (w'.heap[b3]? = some (.cells #[.int .i64 b2,(.slice d1 b7.length d2),(.slice e0 a3.length d7)] 30 (0,0)))∧Aside0 (w'.heap[b4]? = some (.cells #[.int .i64 0,(.slice none 0 0),(.slice none 0 0)] 30 (0,0)))∧Aside0 (w'.heap[a8]? = some (.cells #[.int .i64 b2,(.slice b9 b1.length c0),e3] 30 (0,0)))∧Aside0 (Below w.heap.size w w'))
 case atStart=>exact ⟨(0),(([]:List (S30))),(.slice none 0 0),tz3,H',⟨Nat.le_refl _⟩,⟨by refine Kd.R_q ?_;exact Kd.R_mono (Kd.R_far (p:=⟨a8,2,none⟩) (Kd.R_far (p:=⟨a8,1,none⟩) (Kd.R_far (p:=⟨a8,0,none⟩) (Kd.R_types d8.out a6.out (by decide)) (fun _ hk=>hk.2) (.int .i64 b2)) (fun _ hk=>hk.2) (.slice b9 b1.length c0)) (fun _ hk=>hk.2) (.slice none 0 0)) (fun _ hk=>trivial)⟩,⟨by first|exact Kd.R_nil _ _ _ _ _|exact Kd.N_nil _ _ _ _ _|exact Kd.V_nil _ _ _ _ _|exact Kd.Q_nil _ _ _ _ _|exact Kd.S_nil _ _ _ _ _⟩,⟨by refine blkQ ?_;refine blk_far ?_ b6.out _;refine blkQ ?_;refine blk_far ?_ b6.out _;refine blkQ ?_;refine blk_far ?_ b6.out _;refine blkQ ?_;exact a4.out⟩,⟨by refine blkQ ?_;refine blk_far ?_ d3.out _;refine blkQ ?_;refine blk_far ?_ d3.out _;refine blkQ ?_;refine blk_far ?_ d3.out _;refine blkQ ?_;exact a7.out⟩,⟨by refine blkQ ?_;refine blk_put (cs:=#[.int .i64 b2,.slice b9 b1.length c0,.slice none 0 0]) ?_ 2 _ rfl;refine blkQ ?_;refine blk_put (cs:=#[.int .i64 b2,.slice none 0 0,.slice none 0 0]) ?_ 1 _ rfl;refine blkQ ?_;refine blk_put (cs:=#[.int .i64 0,.slice none 0 0,.slice none 0 0]) ?_ 0 _ rfl;refine blkQ ?_;exact a6.out⟩,⟨by repeat (first|(with_reducible first|exact HB.out|apply below_alloc|apply pw_below_drewN|apply below_drew1|refine below_set ?_ g6.out|refine below_set ?_ g7.out|refine below_set ?_ e5.out)|exact HB.out)⟩⟩
 case round=>
  clear H'
  try clear n3
  try clear n4
  try clear n5
  try clear n6
  try clear n7
  try clear n8
  try clear a4
  try clear a7
  try clear a6
  try clear HB
  obtain ⟨a5,d6,e3,rfl,HA,i2,b8,b5,a4,a7,a6,HB⟩:=hrel
  cases gk with
  | zero=>exact absurd HA.out (by simp [nomination_trust.l0])
  | succ k1=>
   have H:=HA.out
   clear HA
   simp only [nomination_trust.l0] at H
   by_cases f7:a5 < (a3.length:Int)
   ·rw [if_pos f7] at H
    have o0:decide (a5 < (a3.length:Int))=true:=decide_eq_true f7
    clear f7
    by_cases g8:0≤a5
    ·rw [if_pos g8] at H
     have q5:decide (0≤a5)=true:=decide_eq_true g8
     clear g8
     by_cases g9:a5 < (a3.length:Int)
     ·rw [if_pos g9] at H
      have q6:decide (a5 < (a3.length:Int))=true:=decide_eq_true g9
      clear g9
      replace H:=Option.bind_eq_some_iff.mp H
      obtain ⟨⟨f8,f9,g0⟩,l7,H⟩:=H
      replace H:(if d6.length < 2513169434916 then (nomination_trust.l0 k1 a3 (a3.length:Int) (wrap64 (a5 + 1)) b2 b1 (d6 ++ [(⟨f8,f9,g0⟩:S30)])) else (none))=some (r1,r2,r3):=H
      have g5:=Aside0.mk l7
      clear l7
      by_cases h0:d6.length < 2513169434916
      ·rw [if_pos h0] at H
       have LMc21:=Aside0.mk h0
       clear h0
       obtain ⟨g2,i3⟩:∃ y_:List (S30),y_=(d6 ++ [(⟨f8,f9,g0⟩:S30)]):=⟨_,rfl⟩
       replace H:(nomination_trust.l0 k1 a3 (a3.length:Int) (wrap64 (a5 + 1)) b2 b1 g2)=some (r1,r2,r3):=rH i3 H
       have o1:=Aside0.mk i3
       clear i3
       have H':=Aside0.mk H
       clear H
       have i4:0≤(a5:Int):=of_decide_eq_true tz2
       have i5:a5 < (a3.length:Int):=of_decide_eq_true tz2
       obtain ⟨o2,c1,d0,d4,d5,o3,i6,i7,i8,l8,l9,m0,m1⟩:=at_T30 m8.out a5 i4 i5
       cases o3
       replace i6:=(HB.out.cell (World.block_lt_of_cell? w _ i6)).trans i6
       replace i7:=(HB.out.cell (World.block_lt_of_cell? w _ i7)).trans i7
       replace i8:=(HB.out.cell (World.block_lt_of_cell? w _ i8)).trans i8
       have o4:=Aside0.mk l9
       have o5:=Aside0.mk l8
       clear l9 l8
       have o6:=Aside0.mk m1
       have o7:=Aside0.mk m0
       clear m1 m0
       replace i4:=eq_true i4
       replace i5:=eq_true i5
       try go_wp2_with (first|((with_reducible refine gate_dst (N:=5) rfl ?_);refine box_event ?hg (N:=5) ?hd (cs:=#[.int .i64 0,.slice none 0 0,.slice none 0 0]) (t:=30) ?hr ?_;(case hd=>rfl);(case hg=>rfl);(case hr=>first|(go_simp;done)|(go_simp;rfl));intro a9 hg d9 hbox hb;refine ap15 (Kd.R_below (Kd.R_q b8.out) hb) (Kd.R_below (Kd.R_elderB (Kd.R_q b5.out) a9 (Nat.le_of_eq hg.symm)) hb) (blk_below (blkP a4) hb) (blk_below (blkP a7) hb) (blk_below (blkP a6) hb) (below_step (belowP HB) hb) (hbox) ((by rw [hg];exact (below_size (belowP HB)):w.heap.size≤a9)) ((by rw [hg];exact (below_size (belowP HB)):w.heap.size≤a9)) ((by rw [hg];exact Nat.ne_of_lt (blk_lt (blkP a4)):b3≠a9)) ((by rw [hg];exact Nat.ne_of_gt (blk_lt (blkP a4)):a9≠b3)) ((by rw [hg];exact Nat.ne_of_lt (blk_lt (blkP a7)):b4≠a9)) ((by rw [hg];exact Nat.ne_of_gt (blk_lt (blkP a7)):a9≠b4)) ((by rw [hg];exact Nat.ne_of_lt (blk_lt (blkP a6)):a8≠a9)) ((by rw [hg];exact Nat.ne_of_gt (blk_lt (blkP a6)):a9≠a8)) ?_;clear b8 b5 a4 a7 a6 HB;intro b8 b5 a4 a7 a6 HB b0 GW155 m2 h1 o8 h2 o9 g3 m3;clear hb hbox hg;have q7:=o8.out;have q8:=h1.out;have q9:=o9.out;have r0:=h2.out;have r4:=m3.out;have r5:=g3.out;have r6:d9.cell? ⟨a9,0,none⟩=some (.int .i64 0):=(blk_cell b0.out 0).trans rfl;have r7:d9.cell? ⟨a9,1,none⟩=some (.slice none 0 0):=(blk_cell b0.out 1).trans rfl;have r8:d9.cell? ⟨a9,2,none⟩=some (.slice none 0 0):=(blk_cell b0.out 2).trans rfl;have r9:=blk_frozen b0.out 0;have s6:=blk_frozen b0.out 1;have s7:=blk_frozen b0.out 2))
       have e7:Aside0 (Kd.R (Kd.int .i64) 3 (((d9.setCell ⟨a9,0,none⟩ (.int .i64 ((rd_T30 a3 a5).f0))).setCell ⟨a9,1,none⟩ (.slice c1 ((rd_T30 a3 a5).f1).length d0)).setCell ⟨a9,2,none⟩ (.slice d4 ((rd_T30 a3 a5).f2).length d5)) w.heap.size (fun _=>True) (.slice b9 b1.length c0) b1):=⟨by refine Kd.R_q ?_;exact Kd.R_mono (Kd.R_far (p:=⟨a9,2,none⟩) (Kd.R_far (p:=⟨a9,1,none⟩) (Kd.R_far (p:=⟨a9,0,none⟩) (Kd.R_types b8.out b0.out (by decide)) (fun _ hk=>hk.2) (.int .i64 ((rd_T30 a3 a5).f0))) (fun _ hk=>hk.2) (.slice c1 ((rd_T30 a3 a5).f1).length d0)) (fun _ hk=>hk.2) (.slice d4 ((rd_T30 a3 a5).f2).length d5)) (fun _ hk=>trivial)⟩
       have e8:Aside0 (Kd.R k30 30 (((d9.setCell ⟨a9,0,none⟩ (.int .i64 ((rd_T30 a3 a5).f0))).setCell ⟨a9,1,none⟩ (.slice c1 ((rd_T30 a3 a5).f1).length d0)).setCell ⟨a9,2,none⟩ (.slice d4 ((rd_T30 a3 a5).f2).length d5)) w.heap.size (fun k_=>some k_≠(.slice b9 b1.length c0:Value).ownBlock∧k_≠b3∧k_≠b4∧k_≠a8∧k_≠a9) e3 d6):=⟨by refine Kd.R_q ?_;exact Kd.R_mono (Kd.R_far (p:=⟨a9,2,none⟩) (Kd.R_far (p:=⟨a9,1,none⟩) (Kd.R_far (p:=⟨a9,0,none⟩) (Kd.R_mono b5.out (fun k_ hk=>(⟨hk,hk.2⟩:_∧k_≠a9))) (fun _ hk=>hk.2) (.int .i64 ((rd_T30 a3 a5).f0))) (fun _ hk=>hk.2) (.slice c1 ((rd_T30 a3 a5).f1).length d0)) (fun _ hk=>hk.2) (.slice d4 ((rd_T30 a3 a5).f2).length d5)) (fun _ hk=>⟨hk.1.1.1,⟨hk.1.1.2.1,⟨hk.1.1.2.2.1,⟨hk.1.1.2.2.2,hk.1.2⟩⟩⟩⟩)⟩
       have e9:Aside0 ((((d9.setCell ⟨a9,0,none⟩ (.int .i64 ((rd_T30 a3 a5).f0))).setCell ⟨a9,1,none⟩ (.slice c1 ((rd_T30 a3 a5).f1).length d0)).setCell ⟨a9,2,none⟩ (.slice d4 ((rd_T30 a3 a5).f2).length d5)).heap[b3]? = some (.cells #[.int .i64 b2,.slice d1 b7.length d2,.slice (some o2) a3.length d7] 30 (0,0))):=⟨by refine blkQ ?_;refine blk_far ?_ h1.out _;refine blkQ ?_;refine blk_far ?_ h1.out _;refine blkQ ?_;refine blk_far ?_ h1.out _;refine blkQ ?_;exact a4.out⟩
       have f3:Aside0 ((((d9.setCell ⟨a9,0,none⟩ (.int .i64 ((rd_T30 a3 a5).f0))).setCell ⟨a9,1,none⟩ (.slice c1 ((rd_T30 a3 a5).f1).length d0)).setCell ⟨a9,2,none⟩ (.slice d4 ((rd_T30 a3 a5).f2).length d5)).heap[b4]? = some (.cells #[.int .i64 0,.slice none 0 0,.slice none 0 0] 30 (0,0))):=⟨by refine blkQ ?_;refine blk_far ?_ h2.out _;refine blkQ ?_;refine blk_far ?_ h2.out _;refine blkQ ?_;refine blk_far ?_ h2.out _;refine blkQ ?_;exact a7.out⟩
       have f4:Aside0 ((((d9.setCell ⟨a9,0,none⟩ (.int .i64 ((rd_T30 a3 a5).f0))).setCell ⟨a9,1,none⟩ (.slice c1 ((rd_T30 a3 a5).f1).length d0)).setCell ⟨a9,2,none⟩ (.slice d4 ((rd_T30 a3 a5).f2).length d5)).heap[a8]? = some (.cells #[.int .i64 b2,.slice b9 b1.length c0,e3] 30 (0,0))):=⟨by refine blkQ ?_;refine blk_far ?_ g3.out _;refine blkQ ?_;refine blk_far ?_ g3.out _;refine blkQ ?_;refine blk_far ?_ g3.out _;refine blkQ ?_;exact a6.out⟩
       have f5:Aside0 ((((d9.setCell ⟨a9,0,none⟩ (.int .i64 ((rd_T30 a3 a5).f0))).setCell ⟨a9,1,none⟩ (.slice c1 ((rd_T30 a3 a5).f1).length d0)).setCell ⟨a9,2,none⟩ (.slice d4 ((rd_T30 a3 a5).f2).length d5)).heap[a9]? = some (.cells #[.int .i64 ((rd_T30 a3 a5).f0),.slice c1 ((rd_T30 a3 a5).f1).length d0,.slice d4 ((rd_T30 a3 a5).f2).length d5] 30 (0,0))):=⟨by refine blkQ ?_;refine blk_put (cs:=#[.int .i64 ((rd_T30 a3 a5).f0),.slice c1 ((rd_T30 a3 a5).f1).length d0,.slice none 0 0]) ?_ 2 _ rfl;refine blkQ ?_;refine blk_put (cs:=#[.int .i64 ((rd_T30 a3 a5).f0),.slice none 0 0,.slice none 0 0]) ?_ 1 _ rfl;refine blkQ ?_;refine blk_put (cs:=#[.int .i64 0,.slice none 0 0,.slice none 0 0]) ?_ 0 _ rfl;refine blkQ ?_;exact b0.out⟩
       have f6:Aside0 (Below w.heap.size w (((d9.setCell ⟨a9,0,none⟩ (.int .i64 ((rd_T30 a3 a5).f0))).setCell ⟨a9,1,none⟩ (.slice c1 ((rd_T30 a3 a5).f1).length d0)).setCell ⟨a9,2,none⟩ (.slice d4 ((rd_T30 a3 a5).f2).length d5))):=⟨by repeat (first|(with_reducible first|exact HB.out|apply below_alloc|apply pw_below_drewN|apply below_drew1|refine below_set ?_ g6.out|refine below_set ?_ g7.out|refine below_set ?_ e5.out|refine below_set ?_ m2.out)|exact HB.out)⟩
       (try clear b8)
       (try clear b5)
       (try clear a4)
       (try clear a7)
       (try clear a6)
       (try clear b0)
       (try clear HB)
       generalize (((d9.setCell ⟨a9,0,none⟩ (.int .i64 ((rd_T30 a3 a5).f0))).setCell ⟨a9,1,none⟩ (.slice c1 ((rd_T30 a3 a5).f1).length d0)).setCell ⟨a9,2,none⟩ (.slice d4 ((rd_T30 a3 a5).f2).length d5))=p0 at e7 e8 e9 f3 f4 f5 f6 ⊢
       have b8:=e7
       have b5:=e8
       have a4:=e9
       have a7:=f3
       have a6:=f4
       have b0:=f5
       have HB:=f6
       clear e7 e8 e9 f3 f4 f5 f6
       refine ap7 (Kd.R_drew b8.out) (Kd.R_drew b5.out) (blk_drew a4.out) (blk_drew a7.out) (blk_drew a6.out) (blk_drew b0.out) (below_drew1 HB.out) ?_
       clear b8 b5 a4 a7 a6 b0 HB
       intro b8 b5 a4 a7 a6 b0 HB
       refine start_ (n:=8) (S:=fun w'=>w'.cell? ⟨a8,0,none⟩=some (.int .i64 b2)∧w'.cell? ⟨a8,1,none⟩=some (.slice b9 b1.length c0)∧w'.cell? ⟨a8,2,none⟩=some (e3)∧w'.cell? ⟨a9,0,none⟩=some (.int .i64 ((rd_T30 a3 a5).f0))∧w'.cell? ⟨a9,1,none⟩=some (.slice c1 ((rd_T30 a3 a5).f1).length d0)∧w'.cell? ⟨a9,2,none⟩=some (.slice d4 ((rd_T30 a3 a5).f2).length d5)) (ds:=[7]) #[false,false,false,false,false,false,false,false] (by kernel_rfl) rfl rfl ⟨(blk_cell a6.out 0).trans rfl,(blk_cell a6.out 1).trans rfl,(blk_cell a6.out 2).trans rfl,(blk_cell b0.out 0).trans rfl,(blk_cell b0.out 1).trans rfl,(blk_cell b0.out 2).trans rfl⟩ (fun hHeld=>?_);refine with_tabW nomination_trust.tab5 nomination_trust.bits5 (fun HT_ HW_=>?_)
       generalize p0.drew=s8 at b8 b5 a4 a7 a6 b0 HB hHeld ⊢
       refine pure_ (i:=0) (N:=some 19) #[true,false,false,false,false,false,false,false] rfl rfl (any_of HT_.out (by kernel_rfl)) (fun _ _ _ h=>h) (Or.inl ⟨by rfl,tz4⟩) tz1 ?_
       refine take_ (i:=1) (N:=some 20) #[true,true,false,false,false,false,false,false] rfl rfl (take_ofW HT_.out HW_.out (by kernel_rfl)) (fun _ _ _ h=>h) (Or.inl ⟨by rfl,(by rintro w' ⟨s0,s1,s2,s3,s4,s5⟩;go_simp;with_reducible rfl)⟩) hHeld tz1 ?_
       refine take_ (i:=2) (N:=some 21) #[true,true,true,false,false,false,false,false] rfl rfl (take_ofW HT_.out HW_.out (by kernel_rfl)) (fun _ _ _ h=>h) (Or.inl ⟨by rfl,(by rintro w' ⟨s0,s1,s2,s3,s4,s5⟩;go_simp;with_reducible rfl)⟩) hHeld tz1 ?_
       refine one_ (i:=3) (N:=some 22) #[true,true,true,true,false,false,false,false] rfl rfl (one_of HT_.out (by kernel_rfl)) (by decide) (fun K hK=>?_)
       refine goes_ Try.func20 (by kernel_rfl) rfl #[.agg #[.int .i64 ((rd_T30 a3 a5).f0),.slice c1 ((rd_T30 a3 a5).f1).length d0,.slice d4 ((rd_T30 a3 a5).f2).length d5]] (by rfl) rfl rfl tz0 ?_
       with_reducible refine (ih k1 (by have:=i2.out;omega) ((rd_T30 a3 a5).f0) _ _ ((rd_T30 a3 a5).f1) _ _ ((rd_T30 a3 a5).f2) f8 f9 g0 _ ?side1 ?side2 ?side3 ?side4 g5.out).mono ?_
       (case side1=>exact Kd.C_q (Kd.C_below o4.out HB.out))
       (case side2=>exact o5.out)
       (case side3=>exact Kd.C_q (Kd.C_below o6.out HB.out))
       (case side4=>exact o7.out)
       rintro e s9 ⟨t0,t1,rfl,e1,i9,hb⟩
       refine ⟨_,rfl,?_⟩
       refine ap9 (Kd.R_elder' (Kd.R_q b8.out) (Kd.R_base e1) hb) (Kd.R_mono (Kd.R_told (Kd.R_told (Kd.R_old (Kd.R_q b5.out) hb) (Kd.R_base e1)) (Kd.R_base i9)) (fun _ h_=>h_.1)) (Kd.R_lower (Kd.R_new' e1 (Kd.R_lt (Kd.R_q b8.out))) (below_size (belowP HB))) (Kd.R_lower (Kd.R_newB (Kd.R_newB (Kd.R_newB (Kd.R_newB (Kd.R_new' (Kd.R_new' i9 (Kd.R_lt (Kd.R_q b8.out))) (Kd.R_lt (Kd.R_q b5.out))) (blkP a4)) (blkP a7)) (blkP a6)) (blkP b0)) (below_size (belowP HB))) (blk_below (blkP a4) hb) (blk_below (blkP a7) hb) (blk_below (blkP a6) hb) (blk_below (blkP b0) hb) (below_step (belowP HB) hb) ?_
       clear b8 b5 a4 a7 a6 b0 HB
       intro b8 b5 j2 j3 a4 a7 a6 b0 HB
       (try clear hb)
       (try clear hb2)
       (try clear hk)
       (try clear hi)
       (try clear e1)
       (try clear i9)
       obtain ⟨p1,p2,m4⟩:=Kd.R_slice j2.out
       (first|subst m4|(injection m4 with f1_ f2_ f3_;have f4_:=f1_.symm;have f5_:=f3_.symm;clear f1_ f2_ f3_;subst f4_;subst f5_))
       obtain ⟨p3,p4,m5⟩:=Kd.R_slice j3.out
       (first|subst m5|(injection m5 with f1_ f2_ f3_;have f4_:=f1_.symm;have f5_:=f3_.symm;clear f1_ f2_ f3_;subst f4_;subst f5_))
       refine hK.out _ _ ⟨(blk_cell a6.out 0).trans rfl,(blk_cell a6.out 1).trans rfl,(blk_cell a6.out 2).trans rfl,(blk_cell b0.out 0).trans rfl,(blk_cell b0.out 1).trans rfl,(blk_cell b0.out 2).trans rfl⟩ (fun hHeld=>?_)
       clear hK K
       refine norm_ (a':=?_) ?_ ?_
       rotate_left
       ·show Act.put _ (some 22) _=_
        simp only [Act.put,List.setIfInBounds_toArray,List.set_cons_zero,List.set_cons_succ,i64_w,i32_w]
        rfl
       refine one_ (i:=4) (N:=some 23) #[true,true,true,true,true,false,false,false] rfl rfl (one_of HT_.out (by kernel_rfl)) (by decide) (fun K hK=>?_)
       refine value_ (w1:=?_) (v:=?_) (by rfl) rfl ?_ ?_
       rotate_left 2
       ·go_simp
        constructor
        ·rfl
        ·rfl
       refine hK.out _ _ ⟨(blk_cell (blk_alloc a6.out _) 0).trans rfl,(blk_cell (blk_alloc a6.out _) 1).trans rfl,(blk_cell (blk_alloc a6.out _) 2).trans rfl,(blk_cell (blk_alloc b0.out _) 0).trans rfl,(blk_cell (blk_alloc b0.out _) 1).trans rfl,(blk_cell (blk_alloc b0.out _) 2).trans rfl⟩ (fun hHeld=>?_)
       clear hK K
       refine norm_ (a':=?_) ?_ ?_
       rotate_left
       ·show Act.put _ (some 23) _=_
        simp only [Act.put,List.setIfInBounds_toArray,List.set_cons_zero,List.set_cons_succ,i64_w,i32_w]
        rfl
       refine one_ (i:=5) (N:=some 24) #[true,true,true,true,true,true,false,false] rfl rfl (one_of HT_.out (by kernel_rfl)) (by decide) (fun K hK=>?_)
       refine Kd.R_append_step k30 (w0:=w) w.heap.size (by rfl) (.tmp 20) (.tmp 23) 28 30 (.agg #[(.int .i64 0),(.slice none 0 0),(.slice none 0 0)]) 56 rfl Try.underlying28 info30 rfl (by decide) (by omega) e3 d6 (⟨f8,f9,g0⟩:S30) [.int .i64 f8,.slice p1 f9.length p2,.slice p3 g0.length p4] (fun k_=>some k_≠(.slice b9 b1.length c0:Value).ownBlock∧k_≠b3∧k_≠b4∧k_≠a8∧k_≠a9) (fun k_=>((fun k_=>some k_≠(.slice b9 b1.length c0:Value).ownBlock∧k_≠b3∧k_≠b4∧k_≠a8∧k_≠a9)) k_∧some k_≠(e3:Value).ownBlock) rfl rfl ?aP (fun _ hk=>hk) ?aF ?aO ?aB ?aS ?aL ?_
       (case aP=>exact k30_mkM _ _ _ (⟨f8,f9,g0⟩:S30) (Kd.R_mono (Kd.R_types (Kd.R_types (Kd.R_types (Kd.R_types (Kd.R_apart' (j2.out) (Kd.R_typed b5.out) (by decide)) a4.out (by decide)) a7.out (by decide)) a6.out (by decide)) b0.out (by decide)) (fun k_ hk=>⟨⟨hk.1.1.1.1.1.2,⟨hk.1.1.1.2,⟨hk.1.1.2,⟨hk.1.2,hk.2⟩⟩⟩⟩,hk.1.1.1.1.2⟩)) (Kd.R_mono (j3.out) (fun k_ hk=>⟨⟨hk.1.1.1.1.1.2,⟨hk.1.1.1.2,⟨hk.1.1.2,⟨hk.1.2,hk.2⟩⟩⟩⟩,hk.1.1.1.1.2⟩)))
       (case aB=>exact (belowP HB))
       (case aF=>exact (fun k_ hk=>⟨Kd.fresh' (Kd.R_lt (Kd.R_q b8.out)) k_ hk,Kd.freshB (blkP a4) k_ hk,Kd.freshB (blkP a7) k_ hk,Kd.freshB (blkP a6) k_ hk,Kd.freshB (blkP b0) k_ hk⟩))
       (case aO=>exact (by refine Kd.R_q ?_;exact Kd.R_mono b5.out (fun _ hk=>⟨hk.1.1.1,⟨hk.1.1.2.1,⟨hk.1.1.2.2.1,⟨hk.1.1.2.2.2.1,hk.1.1.2.2.2.2⟩⟩⟩⟩)))
       (case aS=>exact (below_size (belowP HB)))
       (case aL=>have:=LMc21.out;omega)
       intro t2 p5 ho hb hg hat
       rw [← o1.out] at ho
       refine ap7 (Kd.R_over' (Kd.R_q b8.out) (Kd.R_typed (Kd.R_q b5.out)) (by decide) hg) (blk_grown (blkP a4) hg (Kd.R_away b5.out (fun _ hk=>by with_reducible first|exact hk.1.1.2.1|exact hk.1.1.1.2.1|exact hk.1.1.1.1.2.1|exact hk.1.1.1.1.1.2.1|exact hk.1.1.1.1.1.1.2.1))) (blk_grown (blkP a7) hg (Kd.R_away b5.out (fun _ hk=>by with_reducible first|exact hk.1.1.2.2.1|exact hk.1.1.1.2.2.1|exact hk.1.1.1.1.2.2.1|exact hk.1.1.1.1.1.2.2.1|exact hk.1.1.1.1.1.1.2.2.1))) (blk_grown (blkP a6) hg (Kd.R_away b5.out (fun _ hk=>by with_reducible first|exact hk.1.1.2.2.2.1|exact hk.1.1.1.2.2.2.1|exact hk.1.1.1.1.2.2.2.1|exact hk.1.1.1.1.1.2.2.2.1|exact hk.1.1.1.1.1.1.2.2.2.1))) (blk_grown (blkP b0) hg (Kd.R_away b5.out (fun _ hk=>by with_reducible first|exact hk.1.1.2.2.2.2|exact hk.1.1.1.2.2.2.2|exact hk.1.1.1.1.2.2.2.2|exact hk.1.1.1.1.1.2.2.2.2|exact hk.1.1.1.1.1.1.2.2.2.2))) (hb) (ho) ?_
       clear b8 a4 a7 a6 b0 HB b5 j2 j3
       intro b8 a4 a7 a6 b0 HB m6
       clear ho hb hg hat
       obtain ⟨j4,j5,m7⟩:=Kd.R_slice m6.out
       (first|subst m7|(injection m7 with f1_ f2_ f3_;have f4_:=f1_.symm;have f5_:=f3_.symm;clear f1_ f2_ f3_;subst f4_;subst f5_))
       refine hK.out _ _ ⟨(blk_cell a6.out 0).trans rfl,(blk_cell a6.out 1).trans rfl,(blk_cell a6.out 2).trans rfl,(blk_cell b0.out 0).trans rfl,(blk_cell b0.out 1).trans rfl,(blk_cell b0.out 2).trans rfl⟩ (fun hHeld=>?_)
       clear hK K
       refine norm_ (a':=?_) ?_ ?_
       rotate_left
       ·show Act.put _ (some 24) _=_
        simp only [Act.put,List.setIfInBounds_toArray,List.set_cons_zero,List.set_cons_succ,i64_w,i32_w]
        rfl
       refine pure_ (i:=6) (N:=some 25) #[true,true,true,true,true,true,true,false] rfl rfl (any_of HT_.out (by kernel_rfl)) (fun _ _ _ h=>h) (Or.inl ⟨by rfl,tz4⟩) tz1 ?_
       refine last_ (i:=7) (N:=none) #[true,true,true,true,true,true,true,true] rfl rfl (one_of HT_.out (by kernel_rfl)) (by decide) (fun K hK=>?_)
       have t3:p5.cell? ⟨a8,2,none⟩=some (e3):=(blk_cell a6.out 2).trans rfl
       have hfs34:=blk_frozen a6.out 2
       have hns34_0:=b6.out
       have hns34_1:=d3.out
       have hns34_3:=m3.out
       have hms34_0:=e2.out
       have hms34_1:=e4.out
       have hms34_3:=g3.out
       refine skip_ (w1:=?_) (by rfl) rfl ?_ ?_
       rotate_left
       ·go_simp
        rfl
       refine hK.out _ _ ?_
       clear hK K
       refine done_ (done_of HT_.out (by kernel_rfl)) ?_
       try go_wp2
       go_roundg k1
       case measure=>have:=i2.out;omega
       case rel=>exact ⟨(wrap64 (a5 + 1)),(g2),(.slice j4 g2.length j5),tz3,H',⟨by have:=i2.out;omega⟩,⟨by refine Kd.R_q ?_;exact Kd.R_mono (Kd.R_far (p:=⟨a8,2,none⟩) (Kd.R_types b8.out a6.out (by decide)) (fun _ hk=>hk.2) (.slice j4 g2.length j5)) (fun _ hk=>trivial)⟩,⟨by refine Kd.R_q ?_;exact Kd.R_mono (Kd.R_far (p:=⟨a8,2,none⟩) (Kd.R_mono m6.out (fun k_ hk=>(⟨hk,hk.2.2.2.1⟩:_∧k_≠a8))) (fun _ hk=>hk.2) (.slice j4 g2.length j5)) (fun _ hk=>⟨hk.1.1,⟨hk.1.2.1,⟨hk.1.2.2.1,hk.1.2.2.2.1⟩⟩⟩)⟩,⟨by refine blkQ ?_;refine blk_far ?_ b6.out _;refine blkQ ?_;exact a4.out⟩,⟨by refine blkQ ?_;refine blk_far ?_ d3.out _;refine blkQ ?_;exact a7.out⟩,⟨by refine blkQ ?_;refine blk_put (cs:=#[.int .i64 b2,.slice b9 b1.length c0,e3]) ?_ 2 _ rfl;refine blkQ ?_;exact a6.out⟩,⟨by repeat (first|(with_reducible first|exact HB.out|apply below_alloc|apply pw_below_drewN|apply below_drew1|refine below_set ?_ g6.out|refine below_set ?_ g7.out|refine below_set ?_ e5.out|refine below_set ?_ m2.out)|exact HB.out)⟩⟩
      ·rw [if_neg h0] at H
       exact absurd H (by simp)
     ·rw [if_neg g9] at H
      exact absurd H (by simp)
    ·rw [if_neg g8] at H
     exact absurd H (by simp)
   ·rw [if_neg f7] at H
    have o0:decide (a5 < (a3.length:Int))=false:=decide_eq_false f7
    clear f7
    simp only [Option.some.injEq,Prod.mk.injEq] at H
    obtain ⟨rfl,rfl,rfl⟩:=H
    have t4:=e2.out
    have t5:=b6.out
    have t6:=e4.out
    have t7:=d3.out
    obtain ⟨t8,t9,u0⟩:=cells3 a6.out
    obtain ⟨u1,u2,u3⟩:=froz3 a6.out
    have u4:=k6.out
    have u5:=k5.out
    obtain ⟨u6,u7,u9⟩:=cells3 a7.out
    obtain ⟨v0,v1,v2⟩:=froz3 a7.out
    obtain ⟨j6,j7,p6⟩:=Kd.R_slice b5.out
    subst p6
    go_wp2
    refine bodyPost_ret (results_cell_row rfl _ _ b4 30 #[.int .i64 b2,.slice b9 b1.length c0,.slice j6 d6.length j7] (0,0) _ rfl (by refine blkQ ?_;refine blk_put (cs:=#[.int .i64 b2,.slice b9 b1.length c0,.slice none 0 0]) ?_ 2 _ rfl;refine blkQ ?_;refine blk_put (cs:=#[.int .i64 b2,.slice none 0 0,.slice none 0 0]) ?_ 1 _ rfl;refine blkQ ?_;refine blk_put (cs:=#[.int .i64 0,.slice none 0 0,.slice none 0 0]) ?_ 0 _ rfl;refine blkQ ?_;exact a7.out) Try.underlying30 rfl (by kernel_rfl)) rfl ?_
    exact ⟨_,_,rE,by refine Kd.R_q ?_;exact Kd.R_mono (Kd.R_far (p:=⟨b4,2,none⟩) (Kd.R_far (p:=⟨b4,1,none⟩) (Kd.R_far (p:=⟨b4,0,none⟩) (Kd.R_types b8.out a7.out (by decide)) (fun _ hk=>hk.2) (.int .i64 b2)) (fun _ hk=>hk.2) (.slice b9 b1.length c0)) (fun _ hk=>hk.2) (.slice j6 d6.length j7)) (fun _ hk=>trivial),by refine Kd.R_q ?_;exact Kd.R_mono (Kd.R_far (p:=⟨b4,2,none⟩) (Kd.R_far (p:=⟨b4,1,none⟩) (Kd.R_far (p:=⟨b4,0,none⟩) (Kd.R_mono b5.out (fun k_ hk=>(⟨hk,hk.2.2.1⟩:_∧k_≠b4))) (fun _ hk=>hk.2) (.int .i64 b2)) (fun _ hk=>hk.2) (.slice b9 b1.length c0)) (fun _ hk=>hk.2) (.slice j6 d6.length j7)) (fun _ hk=>hk.1.1),by repeat (first|(with_reducible first|exact HB.out|apply below_alloc|apply pw_below_drewN|apply below_drew1|refine below_set ?_ g6.out|refine below_set ?_ g7.out|refine below_set ?_ e5.out)|exact HB.out)⟩
def slices_Clone_string_string.f (l0:List ByteArray):Option (List ByteArray):=(some (([]:List ByteArray):List ByteArray)).bind fun a0=>(if a0.length + l0.length < 8796093022208 then (some (a0 ++ l0)) else (none))
set_option maxHeartbeats 8000000 in
set_option maxRecDepth 100000 in
theorem slices_Clone_string_string.calls0 (a7:Addr) (c0:Nat) (l0:List ByteArray) (r:List ByteArray) (w:World) (a1:Kd.C Kd.string w (some a7) l0.length l0) (a4:l0.length≤c0) (h:slices_Clone_string_string.f l0=some r) :
  Calls Try.prog 21 #[.slice (some a7) l0.length c0] w fun e w'=>∃ a2:Value,e = .returned (a2)∧Kd.R Kd.string 9 w' w.heap.size (fun _=>True) a2 r∧Below w.heap.size w w':=by
 have q_:∀ (w:World) (a:Option Addr) (n c n' c':Nat),(binOp .eql 22 (.slice a n c) (.slice none n' c')).run Try.prog w = .ok (.bool a.isNone) w:=fun w a n c n' c'=>Lib.run_eql_slice_nil w _ _ a n c n' c' Try.underlying22
 have b0:=Aside0.mk a1
 have b5:=Aside0.mk a4
 clear a1 a4
 have HB:=Aside0.mk (Below.refl w.heap.size w)
 have H:((some (([]:List ByteArray):List ByteArray)).bind fun a0=>(if a0.length + l0.length < 8796093022208 then (some (a0 ++ l0)) else (none)))=some r:=h
 clear h
 obtain ⟨a0,a5⟩:∃ y_:List ByteArray,y_=(([]:List ByteArray)):=⟨_,rfl⟩
 replace H:(if a0.length + l0.length < 8796093022208 then (some (a0 ++ l0)) else (none))=some r:=rH a5 H
 have a8:=Aside0.mk a5
 clear a5
 by_cases c2:a0.length + l0.length < 8796093022208
 ·rw [if_pos c2] at H
  have LMc2:=Aside0.mk c2
  clear c2
  obtain ⟨b1,a6⟩:∃ y_:List ByteArray,y_=(a0 ++ l0):=⟨_,rfl⟩
  replace H:(some b1)=some r:=rH a6 H
  have b2:=Aside0.mk a6
  clear a6
  obtain rfl:=Option.some.inj H
  go_enter Try.func21,Try.ntmps21
  go_wp2_with (first|((with_reducible refine gate_dst (N:=5) rfl ?_);refine Kd.R_lit Kd.string _ 9 ?hg (N:=5) ?hd (xs:=([]:List ByteArray)) (inner:=[]) (ok:=fun _=>True) (okp:=fun _=>True) ?hr ?hp (fun _ hk=>hk) trivial (Below.refl _ _) (Nat.le_refl _) (by simp) ?_;(case hd=>rfl);(case hg=>rfl);(case hr=>first|(go_simp;done)|(go_simp;rfl));(case hp=>exact (Reps.none _ _));intro b3 w3 a3 hb hg_ hnew_;clear hg_ hnew_;(first|rw [← a8.out] at a3|(simp only [Int.reduceToNat] at a3;rw [← a8.out] at a3));refine ap2 (Kd.R_lower a3 (below_size (belowP HB))) (below_step (belowP HB) hb) ?_;clear HB;intro a9 HB;clear hb a3)|((with_reducible refine gate_builtin (b:=.append) (xs:=#[.tmp 5,.tmp 6]) rfl ?_);at_builtin;refine Kd.R_append_rows Kd.string (w0:=w) w.heap.size rfl (.tmp 5) (.tmp 6) 22 9 (.string ⟨#[]⟩) 16 rfl Try.underlying22 info9 rfl (by decide) (by omega) b3 a0 l0 _ _ _ (fun _=>True) (fun _=>False) rfl rfl ?aO ?aR (fun _ _ h=>h) (fun _ h=>h.elim) ?aF ?aB ?aS ?aL ?_;(case aR=>exact Kd.C_q (Kd.C_below b0.out HB.out));(case aB=>exact (belowP HB));(case aF=>exact (fun _ _=>trivial));(case aO=>exact (Kd.R_q a9.out));(case aS=>exact (below_size (belowP HB)));(case aL=>have:=LMc2.out;omega);intro b6 w5 ho hb hg hat;rw [← b2.out] at ho;refine ap2 (hb) (ho) ?_;clear HB a9;intro HB b4;clear ho hb hg hat))
  go_ret
  exact ⟨_,rE,by refine Kd.R_q ?_;exact b4.out,by repeat (first|(with_reducible first|exact HB.out|apply below_alloc|apply pw_below_drewN|apply below_drew1)|exact HB.out)⟩
 ·rw [if_neg c2] at H
  exact absurd H (by simp)
set_option maxHeartbeats 8000000 in
set_option maxRecDepth 100000 in
theorem slices_Clone_string_string.calls (A0:Option Addr) (c0:Nat) (l0:List ByteArray) (r:List ByteArray) (w:World) (a1:Kd.C Kd.string w A0 l0.length l0) (a4:l0.length≤c0) (h:slices_Clone_string_string.f l0=some r) :
  Calls Try.prog 21 #[.slice A0 l0.length c0] w fun e w'=>∃ a2:Value,e = .returned (a2)∧Kd.R Kd.string 9 w' w.heap.size (fun _=>True) a2 r∧Below w.heap.size w w':=by
 cases A0 with
 | some ad=>exact slices_Clone_string_string.calls0 ad c0 l0 r w a1 a4 h
 | none=>
  have hl:l0 = []:=by
   rcases Nat.eq_zero_or_pos l0.length with h0|h0
   ·exact List.eq_nil_of_length_eq_zero h0
   ·obtain ⟨ad,e_,_⟩:=(a1).2.2 h0
    cases e_
  subst hl
  obtain rfl:r = []:=by
   simp [slices_Clone_string_string.f] at h
   first|exact h|exact h.symm
  have q_:∀ (w:World) (a:Option Addr) (n c n' c':Nat),(binOp .eql 22 (.slice a n c) (.slice none n' c')).run Try.prog w = .ok (.bool a.isNone) w:=fun w a n c n' c'=>Lib.run_eql_slice_nil w _ _ a n c n' c' Try.underlying22
  have hB:=Below.refl w.heap.size w
  clear h
  go_enter Try.func21,Try.ntmps21
  go_wp2
  go_ret
  exact ⟨_,rfl,Kd.R_nil _ _ _ _ _,hB⟩
def nomination_message.f (k:Nat) (b0:Int) (b1:Int) (d5:Int) (c0:List Int) (c1:List (S30)) (b9:List ByteArray) (b7:List ByteArray):Option (Int × Int × Int × List Int × (List (S30)) × List ByteArray × List ByteArray):=(nomination_trust.f k d5 c0 c1).bind fun e3=>((slices_Clone_string_string.f b9).bind fun b3=>((slices_Clone_string_string.f b7).bind fun b4=>(some (b0,b1,e3.1,e3.2.1,e3.2.2,b3,b4))))
theorem nomination_message.mono:∀ a0 a1 a2 a3 a4 a5 a6 k,LeO (nomination_message.f k a0 a1 a2 a3 a4 a5 a6) (nomination_message.f (k + 1) a0 a1 a2 a3 a4 a5 a6):=by
 intro a0 a1 a2 a3 a4 a5 a6 k
 unfold nomination_message.f
 repeat' first
   | (with_reducible apply nomination_trust.mono)
   | (with_reducible exact LeO.refl _)
   | (with_reducible exact LeO.none _)
   | (with_reducible refine LeO.ite ?_ ?_)
   | (with_reducible refine LeO.bind ?_ (fun _=>?_))
def nomination_message.T1:Bool × List (List Nat × List Nat):=(true,[([],[]),([0],[0]),([1],[1]),([],[]),([3],[3]),([4,2],[4]),([],[]),([6],[6]),([7,5],[7]),([0,1,2,3,4,6,7],[]),([9,2,8,0,1,2,3,4,6,7],[2,9]),([0,1,2,3,4,5,6,7,9,10],[]),([11,5,10,0,1,2,3,4,5,6,7,9,10],[5,11]),([0,1,2,3,4,5,6,7,8,9,10,11,12],[]),([13,8,12,0,1,2,3,4,5,6,7,8,9,10,11,12],[8,13])])
def nomination_message.B1:List Nat:=[0,1,3,0,8,31,0,64,255,223,1023,2047,4095,8191,16383]
theorem nomination_message.tab1:rtab .any (opsOf Try.f22 1)=nomination_message.T1:=by kernel_rfl
theorem nomination_message.bits1:waitsOk nomination_message.T1.2 nomination_message.B1=true:=by kernel_rfl
set_option maxHeartbeats 8000000 in
set_option maxRecDepth 100000 in
theorem nomination_message.calls (k:Nat) (b0:Int) (b1:Int) (d5:Int) (e4:Option Addr) (e5:Nat) (c0:List Int) (e6:Option Addr) (e7:Nat) (c1:List (S30)) (e8:Option Addr) (e9:Nat) (b9:List ByteArray) (f0:Option Addr) (f1:Nat) (b7:List ByteArray) (r1:Int) (r2:Int) (r3:Int) (r4:List Int) (r5:List (S30)) (r6:List ByteArray) (r7:List ByteArray) (w:World) (f8:Kd.C (Kd.int .i64) w e4 c0.length c0) (f9:c0.length≤e5) (g0:Kd.C k30 w e6 c1.length c1) (g1:c1.length≤e7) (g2:Kd.C Kd.string w e8 b9.length b9) (g3:b9.length≤e9) (g4:Kd.C Kd.string w f0 b7.length b7) (g5:b7.length≤f1) (h:nomination_message.f k b0 b1 d5 c0 c1 b9 b7=some (r1,r2,r3,r4,r5,r6,r7)) :
  Calls Try.prog 22 #[.agg #[.int .i64 b0,.int .i64 b1,.int .i64 d5,.slice e4 c0.length e5,.slice e6 c1.length e7,.slice e8 b9.length e9,.slice f0 b7.length f1]] w fun e w'=>∃ f5 g6 f6 f7:Value,e = .returned (.agg #[.int .i64 r1,.int .i64 r2,.int .i64 r3,f5,g6,f6,f7])∧Kd.R (Kd.int .i64) 3 w' w.heap.size (fun _=>True) f5 r4∧Kd.R k30 30 w' w.heap.size (fun k_=>some k_≠(f5:Value).ownBlock) g6 r5∧Kd.R Kd.string 9 w' w.heap.size (fun k_=>some k_≠(f7:Value).ownBlock) f6 r6∧Kd.R Kd.string 9 w' w.heap.size (fun k_=>some k_≠(f6:Value).ownBlock) f7 r7∧Below w.heap.size w w':=by
 have hu48:=Try.underlying48
 have hu30:=Try.underlying30
 have h6:=Aside0.mk f8
 have h7:=Aside0.mk f9
 clear f8 f9
 have h8:=Aside0.mk g0
 have h9:=Aside0.mk g1
 clear g0 g1
 have i0:=Aside0.mk g2
 have i1:=Aside0.mk g3
 clear g2 g3
 have i2:=Aside0.mk g4
 have i3:=Aside0.mk g5
 clear g4 g5
 have HB:=Aside0.mk (Below.refl w.heap.size w)
 have H:((nomination_trust.f k d5 c0 c1).bind fun e3=>((slices_Clone_string_string.f b9).bind fun b3=>((slices_Clone_string_string.f b7).bind fun b4=>(some (b0,b1,e3.1,e3.2.1,e3.2.2,b3,b4)))))=some (r1,r2,r3,r4,r5,r6,r7):=h
 clear h
 replace H:=Option.bind_eq_some_iff.mp H
 obtain ⟨⟨b5,b6,b8⟩,g7,H⟩:=H
 replace H:((slices_Clone_string_string.f b9).bind fun b3=>((slices_Clone_string_string.f b7).bind fun b4=>(some (b0,b1,b5,b6,b8,b3,b4))))=some (r1,r2,r3,r4,r5,r6,r7):=H
 have A2:=Aside0.mk g7
 clear g7
 replace H:=Option.bind_eq_some_iff.mp H
 obtain ⟨b3,g8,H⟩:=H
 replace H:((slices_Clone_string_string.f b7).bind fun b4=>(some (b0,b1,b5,b6,b8,b3,b4)))=some (r1,r2,r3,r4,r5,r6,r7):=H
 have A3:=Aside0.mk g8
 clear g8
 replace H:=Option.bind_eq_some_iff.mp H
 obtain ⟨b4,g9,H⟩:=H
 replace H:(some (b0,b1,b5,b6,b8,b3,b4))=some (r1,r2,r3,r4,r5,r6,r7):=H
 have A4:=Aside0.mk g9
 clear g9
 simp only [Option.some.injEq,Prod.mk.injEq] at H
 obtain ⟨rfl,rfl,rfl,rfl,rfl,rfl,rfl⟩:=H
 go_enter Try.func22,Try.ntmps22
 try go_wp2_with (first|((with_reducible refine gate_dst (N:=1) rfl ?_);refine box_event ?hg (N:=1) ?hd (cs:=#[.int .i64 b0,.int .i64 b1,.int .i64 d5,.slice e4 c0.length e5,.slice e6 c1.length e7,.slice e8 b9.length e9,.slice f0 b7.length f1]) (t:=48) ?hr ?_;(case hd=>rfl);(case hg=>rfl);(case hr=>first|(go_simp;done)|(go_simp;rfl));intro a8 hg w5 hbox hb;refine ap4 (below_step (belowP HB) hb) (hbox) ((by rw [hg];exact (below_size (belowP HB)):w.heap.size≤a8)) ((by rw [hg];exact (below_size (belowP HB)):w.heap.size≤a8)) ?_;clear HB;intro HB a7 GW172 i4;clear hb hbox hg)|((with_reducible refine gate_dst (N:=2) rfl ?_);refine box_event ?hg (N:=2) ?hd (cs:=#[.int .i64 0,.int .i64 0,.int .i64 0,.slice none 0 0,.slice none 0 0,.slice none 0 0,.slice none 0 0]) (t:=48) ?hr ?_;(case hd=>rfl);(case hg=>rfl);(case hr=>first|(go_simp;done)|(go_simp;rfl));intro a9 hg w6 hbox hb;refine ap7 (blk_below (blkP a7) hb) (below_step (belowP HB) hb) (hbox) ((by rw [hg];exact (below_size (belowP HB)):w.heap.size≤a9)) ((by rw [hg];exact (below_size (belowP HB)):w.heap.size≤a9)) ((by rw [hg];exact Nat.ne_of_lt (blk_lt (blkP a7)):a8≠a9)) ((by rw [hg];exact Nat.ne_of_gt (blk_lt (blkP a7)):a9≠a8)) ?_;clear a7 HB;intro a7 HB b2 GW173 i5 f2 d2;clear hb hbox hg))
 refine ap3 (blk_drew a7.out) (blk_drew b2.out) (below_drew1 HB.out) ?_
 clear a7 b2 HB
 intro a7 b2 HB
 refine start_ (n:=15) (S:=fun w'=>w'.cell? ⟨a8,0,none⟩=some (.int .i64 b0)∧w'.cell? ⟨a8,1,none⟩=some (.int .i64 b1)∧w'.cell? ⟨a8,2,none⟩=some (.int .i64 d5)∧w'.cell? ⟨a8,3,none⟩=some (.slice e4 c0.length e5)∧w'.cell? ⟨a8,4,none⟩=some (.slice e6 c1.length e7)∧w'.cell? ⟨a8,5,none⟩=some (.slice e8 b9.length e9)∧w'.cell? ⟨a8,6,none⟩=some (.slice f0 b7.length f1)) (ds:=[10,12,14]) #[false,false,false,false,false,false,false,false,false,false,false,false,false,false,false] (by kernel_rfl) rfl rfl ⟨(blk_cell a7.out 0).trans rfl,(blk_cell a7.out 1).trans rfl,(blk_cell a7.out 2).trans rfl,(blk_cell a7.out 3).trans rfl,(blk_cell a7.out 4).trans rfl,(blk_cell a7.out 5).trans rfl,(blk_cell a7.out 6).trans rfl⟩ (fun hHeld=>?_);refine with_tabW nomination_message.tab1 nomination_message.bits1 (fun HT_ HW_=>?_)
 generalize w6.drew=w7 at a7 b2 HB hHeld ⊢
 refine pure_ (i:=0) (N:=some 3) #[true,false,false,false,false,false,false,false,false,false,false,false,false,false,false] rfl rfl (any_of HT_.out (by kernel_rfl)) (fun _ _ _ h=>h) (Or.inl ⟨by rfl,tz4⟩) tz1 ?_
 refine pure_ (i:=3) (N:=some 6) #[true,false,false,true,false,false,false,false,false,false,false,false,false,false,false] rfl rfl (any_of HT_.out (by kernel_rfl)) (fun _ _ _ h=>h) (Or.inl ⟨by rfl,tz4⟩) tz1 ?_
 refine pure_ (i:=6) (N:=some 9) #[true,false,false,true,false,false,true,false,false,false,false,false,false,false,false] rfl rfl (any_of HT_.out (by kernel_rfl)) (fun _ _ _ h=>h) (Or.inl ⟨by rfl,tz4⟩) tz1 ?_
 refine take_ (i:=1) (N:=some 4) #[true,true,false,true,false,false,true,false,false,false,false,false,false,false,false] rfl rfl (take_ofW HT_.out HW_.out (by kernel_rfl)) (fun _ _ _ h=>h) (Or.inl ⟨by rfl,tz7⟩) hHeld tz1 ?_
 refine take_ (i:=4) (N:=some 7) #[true,true,false,true,true,false,true,false,false,false,false,false,false,false,false] rfl rfl (take_ofW HT_.out HW_.out (by kernel_rfl)) (fun _ _ _ h=>h) (Or.inl ⟨by rfl,tz7⟩) hHeld tz1 ?_
 refine take_ (i:=7) (N:=some 10) #[true,true,false,true,true,false,true,true,false,false,false,false,false,false,false] rfl rfl (take_ofW HT_.out HW_.out (by kernel_rfl)) (fun _ _ _ h=>h) (Or.inl ⟨by rfl,tz7⟩) hHeld tz1 ?_
 refine one_ (i:=2) (N:=some 5) #[true,true,true,true,true,false,true,true,false,false,false,false,false,false,false] rfl rfl (one_of HT_.out (by kernel_rfl)) (by decide) (fun K hK=>?_)
 refine goes_ Try.func20 (by kernel_rfl) rfl #[.agg #[.int .i64 d5,.slice e4 c0.length e5,.slice e6 c1.length e7]] (by rfl) rfl rfl tz0 ?_
 with_reducible refine (nomination_trust.calls k d5 _ _ c0 _ _ c1 b5 b6 b8 _ ?side1 ?side2 ?side3 ?side4 A2.out).mono ?_
 (case side1=>exact Kd.C_q (Kd.C_below h6.out HB.out))
 (case side2=>exact h7.out)
 (case side3=>exact Kd.C_q (Kd.C_below h8.out HB.out))
 (case side4=>exact h9.out)
 rintro e w8 ⟨i6,i7,rfl,d8,h0,hb⟩
 refine ⟨_,rfl,?_⟩
 refine ap5 (Kd.R_lower d8 (below_size (belowP HB))) (Kd.R_lower h0 (below_size (belowP HB))) (blk_below (blkP a7) hb) (blk_below (blkP b2) hb) (below_step (belowP HB) hb) ?_
 clear a7 b2 HB
 intro e1 e2 a7 b2 HB
 (try clear hb)
 (try clear hb2)
 (try clear hk)
 (try clear hi)
 (try clear d8)
 (try clear h0)
 refine hK.out _ _ ⟨(blk_cell a7.out 0).trans rfl,(blk_cell a7.out 1).trans rfl,(blk_cell a7.out 2).trans rfl,(blk_cell a7.out 3).trans rfl,(blk_cell a7.out 4).trans rfl,(blk_cell a7.out 5).trans rfl,(blk_cell a7.out 6).trans rfl⟩ (fun hHeld=>?_)
 clear hK K
 refine norm_ (a':=?_) ?_ ?_
 rotate_left
 ·show Act.put _ (some 5) _=_
  simp only [Act.put,List.setIfInBounds_toArray,List.set_cons_zero,List.set_cons_succ,i64_w,i32_w]
  rfl
 refine pure_ (i:=9) (N:=some 12) #[true,true,true,true,true,false,true,true,false,true,false,false,false,false,false] rfl rfl (any_of HT_.out (by kernel_rfl)) (fun _ _ _ h=>h) (Or.inl ⟨by rfl,tz4⟩) tz1 ?_
 refine one_ (i:=5) (N:=some 8) #[true,true,true,true,true,true,true,true,false,true,false,false,false,false,false] rfl rfl (one_of HT_.out (by kernel_rfl)) (by decide) (fun K hK=>?_)
 refine goes_ Try.func21 (by kernel_rfl) rfl #[.slice e8 b9.length e9] (by rfl) rfl rfl tz0 ?_
 with_reducible refine (slices_Clone_string_string.calls _ _ b9 b3 _ ?side1 ?side2 A3.out).mono ?_
 (case side1=>exact Kd.C_q (Kd.C_below i0.out HB.out))
 (case side2=>exact i1.out)
 rintro e w9 ⟨i8,rfl,d8,hb⟩
 refine ⟨_,rfl,?_⟩
 refine ap6 (Kd.R_below (Kd.R_q e1.out) hb) (Kd.R_below (Kd.R_q e2.out) hb) (Kd.R_lower d8 (below_size (belowP HB))) (blk_below (blkP a7) hb) (blk_below (blkP b2) hb) (below_step (belowP HB) hb) ?_
 clear e1 e2 a7 b2 HB
 intro e1 e2 f3 a7 b2 HB
 (try clear hb)
 (try clear hb2)
 (try clear hk)
 (try clear hi)
 (try clear d8)
 refine hK.out _ _ ⟨(blk_cell a7.out 0).trans rfl,(blk_cell a7.out 1).trans rfl,(blk_cell a7.out 2).trans rfl,(blk_cell a7.out 3).trans rfl,(blk_cell a7.out 4).trans rfl,(blk_cell a7.out 5).trans rfl,(blk_cell a7.out 6).trans rfl⟩ (fun hHeld=>?_)
 clear hK K
 refine norm_ (a':=?_) ?_ ?_
 rotate_left
 ·show Act.put _ (some 8) _=_
  simp only [Act.put,List.setIfInBounds_toArray,List.set_cons_zero,List.set_cons_succ,i64_w,i32_w]
  rfl
 refine one_ (i:=8) (N:=some 11) #[true,true,true,true,true,true,true,true,true,true,false,false,false,false,false] rfl rfl (one_of HT_.out (by kernel_rfl)) (by decide) (fun K hK=>?_)
 refine goes_ Try.func21 (by kernel_rfl) rfl #[.slice f0 b7.length f1] (by rfl) rfl rfl tz0 ?_
 with_reducible refine (slices_Clone_string_string.calls _ _ b7 b4 _ ?side1 ?side2 A4.out).mono ?_
 (case side1=>exact Kd.C_q (Kd.C_below i2.out HB.out))
 (case side2=>exact i3.out)
 rintro e f4 ⟨i9,rfl,d8,hb⟩
 refine ⟨_,rfl,?_⟩
 refine ap7 (Kd.R_below (Kd.R_q e1.out) hb) (Kd.R_below (Kd.R_q e2.out) hb) (Kd.R_elder' (Kd.R_q f3.out) (Kd.R_base d8) hb) (Kd.R_lower (Kd.R_new' d8 (Kd.R_lt (Kd.R_q f3.out))) (below_size (belowP HB))) (blk_below (blkP a7) hb) (blk_below (blkP b2) hb) (below_step (belowP HB) hb) ?_
 clear e1 e2 f3 a7 b2 HB
 intro e1 e2 f3 h1 a7 b2 HB
 (try clear hb)
 (try clear hb2)
 (try clear hk)
 (try clear hi)
 (try clear d8)
 obtain ⟨d0,d1,h2⟩:=Kd.R_slice e1.out
 (first|subst h2|(injection h2 with f1_ f2_ f3_;have f4_:=f1_.symm;have f5_:=f3_.symm;clear f1_ f2_ f3_;subst f4_;subst f5_))
 obtain ⟨d3,d4,h3⟩:=Kd.R_slice e2.out
 (first|subst h3|(injection h3 with f1_ f2_ f3_;have f4_:=f1_.symm;have f5_:=f3_.symm;clear f1_ f2_ f3_;subst f4_;subst f5_))
 obtain ⟨d6,d7,h4⟩:=Kd.R_slice f3.out
 (first|subst h4|(injection h4 with f1_ f2_ f3_;have f4_:=f1_.symm;have f5_:=f3_.symm;clear f1_ f2_ f3_;subst f4_;subst f5_))
 obtain ⟨d9,e0,h5⟩:=Kd.R_slice h1.out
 (first|subst h5|(injection h5 with f1_ f2_ f3_;have f4_:=f1_.symm;have f5_:=f3_.symm;clear f1_ f2_ f3_;subst f4_;subst f5_))
 refine hK.out _ _ ⟨(blk_cell a7.out 0).trans rfl,(blk_cell a7.out 1).trans rfl,(blk_cell a7.out 2).trans rfl,(blk_cell a7.out 3).trans rfl,(blk_cell a7.out 4).trans rfl,(blk_cell a7.out 5).trans rfl,(blk_cell a7.out 6).trans rfl⟩ (fun hHeld=>?_)
 clear hK K
 refine norm_ (a':=?_) ?_ ?_
 rotate_left
 ·show Act.put _ (some 11) _=_
  simp only [Act.put,List.setIfInBounds_toArray,List.set_cons_zero,List.set_cons_succ,i64_w,i32_w]
  rfl
 refine last_ (i:=10) (N:=none) #[true,true,true,true,true,true,true,true,true,true,true,false,false,false,false] rfl rfl (one_of HT_.out (by kernel_rfl)) (by decide) (fun K hK=>?_)
 have j2:f4.cell? ⟨a8,2,none⟩=some (.int .i64 d5):=(blk_cell a7.out 2).trans rfl
 have hfs11:=blk_frozen a7.out 2
 have hns11_1:=d2.out
 have hms11_1:=f2.out
 have j3:f4.cell? ⟨a8,3,none⟩=some (.slice e4 c0.length e5):=(blk_cell a7.out 3).trans rfl
 have hfs13:=blk_frozen a7.out 3
 have hns13_1:=d2.out
 have hms13_1:=f2.out
 have j4:f4.cell? ⟨a8,4,none⟩=some (.slice e6 c1.length e7):=(blk_cell a7.out 4).trans rfl
 have hfs15:=blk_frozen a7.out 4
 have hns15_1:=d2.out
 have hms15_1:=f2.out
 refine skip_ (w1:=?_) (by rfl) rfl ?_ ?_
 rotate_left
 ·go_simp
  rfl
 refine hK.out _ _ ?_
 clear hK K
 refine pure_ (i:=11) (N:=some 13) #[true,true,true,true,true,true,true,true,true,true,true,true,false,false,false] rfl rfl (any_of HT_.out (by kernel_rfl)) (fun _ _ _ h=>h) (Or.inl ⟨by rfl,tz4⟩) tz1 ?_
 refine last_ (i:=12) (N:=none) #[true,true,true,true,true,true,true,true,true,true,true,true,true,false,false] rfl rfl (one_of HT_.out (by kernel_rfl)) (by decide) (fun K hK=>?_)
 have j5:f4.cell? ⟨a8,5,none⟩=some (.slice e8 b9.length e9):=(blk_cell a7.out 5).trans rfl
 have hfs17:=blk_frozen a7.out 5
 have hns17_1:=d2.out
 have hms17_1:=f2.out
 refine skip_ (w1:=?_) (by rfl) rfl ?_ ?_
 rotate_left
 ·go_simp
  rfl
 refine hK.out _ _ ?_
 clear hK K
 refine pure_ (i:=13) (N:=some 14) #[true,true,true,true,true,true,true,true,true,true,true,true,true,true,false] rfl rfl (any_of HT_.out (by kernel_rfl)) (fun _ _ _ h=>h) (Or.inl ⟨by rfl,tz4⟩) tz1 ?_
 refine last_ (i:=14) (N:=none) #[true,true,true,true,true,true,true,true,true,true,true,true,true,true,true] rfl rfl (one_of HT_.out (by kernel_rfl)) (by decide) (fun K hK=>?_)
 have j6:f4.cell? ⟨a8,6,none⟩=some (.slice f0 b7.length f1):=(blk_cell a7.out 6).trans rfl
 have hfs19:=blk_frozen a7.out 6
 have hns19_1:=d2.out
 have hms19_1:=f2.out
 refine skip_ (w1:=?_) (by rfl) rfl ?_ ?_
 rotate_left
 ·go_simp
  rfl
 refine hK.out _ _ ?_
 clear hK K
 refine done_ (done_of HT_.out (by kernel_rfl)) ?_
 have j7:=f2.out
 have j8:=d2.out
 obtain ⟨j9,k0,k1,k2,k3,k4,k5⟩:=cells7 a7.out
 obtain ⟨k6,k7,k8,k9,l3,l4,l5⟩:=froz7 a7.out
 obtain ⟨l6,l7,l8,l9,m0,m1,m2⟩:=cells7 b2.out
 obtain ⟨m3,m4,m5,m6,m7,m8,m9⟩:=froz7 b2.out
 try go_wp2
 refine bodyPost_ret (results_cell_row rfl _ _ a9 48 #[.int .i64 b0,.int .i64 b1,.int .i64 b5,.slice d0 b6.length d1,.slice d3 b8.length d4,.slice d6 b3.length d7,.slice d9 b4.length e0] (0,0) _ rfl (by refine blkQ ?_;refine blk_put (cs:=#[.int .i64 b0,.int .i64 b1,.int .i64 b5,.slice d0 b6.length d1,.slice d3 b8.length d4,.slice d6 b3.length d7,.slice none 0 0]) ?_ 6 _ rfl;refine blkQ ?_;refine blk_put (cs:=#[.int .i64 b0,.int .i64 b1,.int .i64 b5,.slice d0 b6.length d1,.slice d3 b8.length d4,.slice none 0 0,.slice none 0 0]) ?_ 5 _ rfl;refine blkQ ?_;refine blk_put (cs:=#[.int .i64 b0,.int .i64 b1,.int .i64 b5,.slice d0 b6.length d1,.slice none 0 0,.slice none 0 0,.slice none 0 0]) ?_ 4 _ rfl;refine blkQ ?_;refine blk_put (cs:=#[.int .i64 b0,.int .i64 b1,.int .i64 b5,.slice none 0 0,.slice none 0 0,.slice none 0 0,.slice none 0 0]) ?_ 3 _ rfl;refine blkQ ?_;refine blk_put (cs:=#[.int .i64 b0,.int .i64 b1,.int .i64 0,.slice none 0 0,.slice none 0 0,.slice none 0 0,.slice none 0 0]) ?_ 2 _ rfl;refine blkQ ?_;refine blk_put (cs:=#[.int .i64 b0,.int .i64 0,.int .i64 0,.slice none 0 0,.slice none 0 0,.slice none 0 0,.slice none 0 0]) ?_ 1 _ rfl;refine blkQ ?_;refine blk_put (cs:=#[.int .i64 0,.int .i64 0,.int .i64 0,.slice none 0 0,.slice none 0 0,.slice none 0 0,.slice none 0 0]) ?_ 0 _ rfl;refine blkQ ?_;refine blk_far ?_ d2.out _;refine blkQ ?_;refine blk_far ?_ d2.out _;refine blkQ ?_;refine blk_far ?_ d2.out _;refine blkQ ?_;refine blk_far ?_ d2.out _;refine blkQ ?_;refine blk_far ?_ d2.out _;refine blkQ ?_;exact b2.out) Try.underlying48 rfl (by kernel_rfl)) rfl ?_
 exact ⟨_,_,_,_,rE,by refine Kd.R_q ?_;exact Kd.R_mono (Kd.R_far (p:=⟨a9,6,none⟩) (Kd.R_far (p:=⟨a9,5,none⟩) (Kd.R_far (p:=⟨a9,4,none⟩) (Kd.R_far (p:=⟨a9,3,none⟩) (Kd.R_far (p:=⟨a9,2,none⟩) (Kd.R_far (p:=⟨a9,1,none⟩) (Kd.R_far (p:=⟨a9,0,none⟩) (Kd.R_far (p:=⟨a8,6,none⟩) (Kd.R_far (p:=⟨a8,5,none⟩) (Kd.R_far (p:=⟨a8,4,none⟩) (Kd.R_far (p:=⟨a8,3,none⟩) (Kd.R_far (p:=⟨a8,2,none⟩) (Kd.R_types (Kd.R_types e1.out a7.out (by decide)) b2.out (by decide)) (fun _ hk=>hk.1.2) (.int .i64 b5)) (fun _ hk=>hk.1.2) (.slice d0 b6.length d1)) (fun _ hk=>hk.1.2) (.slice d3 b8.length d4)) (fun _ hk=>hk.1.2) (.slice d6 b3.length d7)) (fun _ hk=>hk.1.2) (.slice d9 b4.length e0)) (fun _ hk=>hk.2) (.int .i64 b0)) (fun _ hk=>hk.2) (.int .i64 b1)) (fun _ hk=>hk.2) (.int .i64 b5)) (fun _ hk=>hk.2) (.slice d0 b6.length d1)) (fun _ hk=>hk.2) (.slice d3 b8.length d4)) (fun _ hk=>hk.2) (.slice d6 b3.length d7)) (fun _ hk=>hk.2) (.slice d9 b4.length e0)) (fun _ hk=>trivial),by refine Kd.R_q ?_;exact Kd.R_mono (Kd.R_far (p:=⟨a9,6,none⟩) (Kd.R_far (p:=⟨a9,5,none⟩) (Kd.R_far (p:=⟨a9,4,none⟩) (Kd.R_far (p:=⟨a9,3,none⟩) (Kd.R_far (p:=⟨a9,2,none⟩) (Kd.R_far (p:=⟨a9,1,none⟩) (Kd.R_far (p:=⟨a9,0,none⟩) (Kd.R_far (p:=⟨a8,6,none⟩) (Kd.R_far (p:=⟨a8,5,none⟩) (Kd.R_far (p:=⟨a8,4,none⟩) (Kd.R_far (p:=⟨a8,3,none⟩) (Kd.R_far (p:=⟨a8,2,none⟩) (Kd.R_types (Kd.R_types e2.out a7.out (by decide)) b2.out (by decide)) (fun _ hk=>hk.1.2) (.int .i64 b5)) (fun _ hk=>hk.1.2) (.slice d0 b6.length d1)) (fun _ hk=>hk.1.2) (.slice d3 b8.length d4)) (fun _ hk=>hk.1.2) (.slice d6 b3.length d7)) (fun _ hk=>hk.1.2) (.slice d9 b4.length e0)) (fun _ hk=>hk.2) (.int .i64 b0)) (fun _ hk=>hk.2) (.int .i64 b1)) (fun _ hk=>hk.2) (.int .i64 b5)) (fun _ hk=>hk.2) (.slice d0 b6.length d1)) (fun _ hk=>hk.2) (.slice d3 b8.length d4)) (fun _ hk=>hk.2) (.slice d6 b3.length d7)) (fun _ hk=>hk.2) (.slice d9 b4.length e0)) (fun _ hk=>hk.1.1),by refine Kd.R_q ?_;exact Kd.R_mono (Kd.R_far (p:=⟨a9,6,none⟩) (Kd.R_far (p:=⟨a9,5,none⟩) (Kd.R_far (p:=⟨a9,4,none⟩) (Kd.R_far (p:=⟨a9,3,none⟩) (Kd.R_far (p:=⟨a9,2,none⟩) (Kd.R_far (p:=⟨a9,1,none⟩) (Kd.R_far (p:=⟨a9,0,none⟩) (Kd.R_far (p:=⟨a8,6,none⟩) (Kd.R_far (p:=⟨a8,5,none⟩) (Kd.R_far (p:=⟨a8,4,none⟩) (Kd.R_far (p:=⟨a8,3,none⟩) (Kd.R_far (p:=⟨a8,2,none⟩) (Kd.R_types (Kd.R_types f3.out a7.out (by decide)) b2.out (by decide)) (fun _ hk=>hk.1.2) (.int .i64 b5)) (fun _ hk=>hk.1.2) (.slice d0 b6.length d1)) (fun _ hk=>hk.1.2) (.slice d3 b8.length d4)) (fun _ hk=>hk.1.2) (.slice d6 b3.length d7)) (fun _ hk=>hk.1.2) (.slice d9 b4.length e0)) (fun _ hk=>hk.2) (.int .i64 b0)) (fun _ hk=>hk.2) (.int .i64 b1)) (fun _ hk=>hk.2) (.int .i64 b5)) (fun _ hk=>hk.2) (.slice d0 b6.length d1)) (fun _ hk=>hk.2) (.slice d3 b8.length d4)) (fun _ hk=>hk.2) (.slice d6 b3.length d7)) (fun _ hk=>hk.2) (.slice d9 b4.length e0)) (fun _ hk=>hk.1.1.2),by refine Kd.R_q ?_;exact Kd.R_mono (Kd.R_far (p:=⟨a9,6,none⟩) (Kd.R_far (p:=⟨a9,5,none⟩) (Kd.R_far (p:=⟨a9,4,none⟩) (Kd.R_far (p:=⟨a9,3,none⟩) (Kd.R_far (p:=⟨a9,2,none⟩) (Kd.R_far (p:=⟨a9,1,none⟩) (Kd.R_far (p:=⟨a9,0,none⟩) (Kd.R_far (p:=⟨a8,6,none⟩) (Kd.R_far (p:=⟨a8,5,none⟩) (Kd.R_far (p:=⟨a8,4,none⟩) (Kd.R_far (p:=⟨a8,3,none⟩) (Kd.R_far (p:=⟨a8,2,none⟩) (Kd.R_types (Kd.R_types h1.out a7.out (by decide)) b2.out (by decide)) (fun _ hk=>hk.1.2) (.int .i64 b5)) (fun _ hk=>hk.1.2) (.slice d0 b6.length d1)) (fun _ hk=>hk.1.2) (.slice d3 b8.length d4)) (fun _ hk=>hk.1.2) (.slice d6 b3.length d7)) (fun _ hk=>hk.1.2) (.slice d9 b4.length e0)) (fun _ hk=>hk.2) (.int .i64 b0)) (fun _ hk=>hk.2) (.int .i64 b1)) (fun _ hk=>hk.2) (.int .i64 b5)) (fun _ hk=>hk.2) (.slice d0 b6.length d1)) (fun _ hk=>hk.2) (.slice d3 b8.length d4)) (fun _ hk=>hk.2) (.slice d6 b3.length d7)) (fun _ hk=>hk.2) (.slice d9 b4.length e0)) (fun _ hk=>hk.1.1.2),by repeat (first|(with_reducible first|exact HB.out|apply below_alloc|apply pw_below_drewN|apply below_drew1|refine below_set ?_ i4.out|refine below_set ?_ i5.out)|exact HB.out)⟩
def nomination_fresh.l0:Nat→List (S48)→Int→Int→Int→Int→Int→Int→Int→List Int→List (S30)→ByteArray→List ByteArray→List ByteArray→List ByteArray→List (S48)→Option (Int × Int × Int × Int × Int × List Int × (List (S30)) × ByteArray × List ByteArray × List ByteArray × List ByteArray × (List (S48)))
 | 0,_,_,_,_,_,_,_,_,_,_,_,_,_,_,_=>none
 | k + 1,i9,q6,h7,q7,q8,q9,r0,t0,t1,t2,t3,t4,t5,t6,n2=>if h7 < q6 then (if 0≤h7 then (if h7 < (i9.length:Int) then ((nomination_message.f k ((rd_T48 i9 h7).f0) ((rd_T48 i9 h7).f1) ((rd_T48 i9 h7).f2.f0) ((rd_T48 i9 h7).f2.f1) ((rd_T48 i9 h7).f2.f2) ((rd_T48 i9 h7).f3) ((rd_T48 i9 h7).f4)).bind fun k0=>(if n2.length < 1172812402961 then (nomination_fresh.l0 k i9 q6 (wrap64 (h7 + 1)) q7 q8 q9 r0 t0 t1 t2 t3 t4 t5 t6 (n2 ++ [(⟨k0.1,k0.2.1,(⟨k0.2.2.1,k0.2.2.2.1,k0.2.2.2.2.1⟩:S30),k0.2.2.2.2.2.1,k0.2.2.2.2.2.2⟩:S48)])) else (none))) else (none)) else (none)) else (some (q7,q8,q9,r0,t0,t1,t2,t3,t4,t5,t6,n2))
def nomination_fresh.f (k:Nat) (d0:Int) (d1:Int) (d2:Int) (d4:Int) (h8:Int) (h4:List Int) (h2:List (S30)) (d6:ByteArray) (g9:List ByteArray) (g5:List ByteArray) (g0:List ByteArray) (b0:List (S48)):Option (Int × Int × Int × Int × Int × List Int × (List (S30)) × ByteArray × List ByteArray × List ByteArray × List ByteArray × (List (S48))):=(nomination_trust.f k h8 h4 h2).bind fun k2=>((slices_Clone_string_string.f g9).bind fun b8=>((slices_Clone_string_string.f g5).bind fun b9=>((slices_Clone_string_string.f g0).bind fun c0=>(nomination_fresh.l0 k b0 (b0.length:Int) 0 d0 d1 d2 d4 k2.1 k2.2.1 k2.2.2 d6 b8 b9 c0 ([]:List (S48))))))
theorem nomination_fresh.mono_l:∀ k,(∀ y0 y1 y2 y3 y4 y5 y6 y7 y8 y9 n3 n4 n5 n6 n7,LeO (nomination_fresh.l0 k y0 y1 y2 y3 y4 y5 y6 y7 y8 y9 n3 n4 n5 n6 n7) (nomination_fresh.l0 (k + 1) y0 y1 y2 y3 y4 y5 y6 y7 y8 y9 n3 n4 n5 n6 n7))
 | 0=>fun _ _ _ _ _ _ _ _ _ _ _ _ _ _ _ r h=>by simp [nomination_fresh.l0] at h
 | k + 1=>by
  have n8:=nomination_fresh.mono_l k
  ·intro y0 y1 y2 y3 y4 y5 y6 y7 y8 y9 n3 n4 n5 n6 n7
   unfold nomination_fresh.l0
   repeat' first
   | (with_reducible exact n8 _ _ _ _ _ _ _ _ _ _ _ _ _ _ _)
   | (with_reducible apply nomination_message.mono)
   | (with_reducible apply nomination_trust.mono)
   | (with_reducible exact LeO.refl _)
   | (with_reducible exact LeO.none _)
   | (with_reducible refine LeO.ite ?_ ?_)
   | (with_reducible refine LeO.bind ?_ (fun _=>?_))
theorem nomination_fresh.mono:∀ a0 a1 a2 a3 a4 a5 a6 a7 a8 a9 n9 o0 k,LeO (nomination_fresh.f k a0 a1 a2 a3 a4 a5 a6 a7 a8 a9 n9 o0) (nomination_fresh.f (k + 1) a0 a1 a2 a3 a4 a5 a6 a7 a8 a9 n9 o0):=by
 intro a0 a1 a2 a3 a4 a5 a6 a7 a8 a9 n9 o0 k
 have n8:=nomination_fresh.mono_l k
 unfold nomination_fresh.f
 repeat' first
   | (with_reducible exact n8 _ _ _ _ _ _ _ _ _ _ _ _ _ _ _)
   | (with_reducible apply nomination_message.mono)
   | (with_reducible apply nomination_trust.mono)
   | (with_reducible exact LeO.refl _)
   | (with_reducible exact LeO.none _)
   | (with_reducible refine LeO.ite ?_ ?_)
   | (with_reducible refine LeO.bind ?_ (fun _=>?_))
def nomination_fresh.T1:Bool × List (List Nat × List Nat):=(true,[([],[]),([0],[0]),([1],[1]),([],[]),([3],[3]),([4,2],[4]),([],[]),([6],[6]),([7,5],[7]),([],[]),([9],[9]),([10,8],[10]),([0,1,2,3,4,6,7,9,10],[]),([12,2,11,0,1,2,3,4,6,7,9,10],[2,12]),([0,1,2,3,4,5,6,7,9,10,12,13],[]),([14,5,13,0,1,2,3,4,5,6,7,9,10,12,13],[5,14]),([0,1,2,3,4,5,6,7,8,9,10,12,13,14,15],[]),([16,8,15,0,1,2,3,4,5,6,7,8,9,10,12,13,14,15],[8,16]),([0,1,2,3,4,5,6,7,8,9,10,11,12,13,14,15,16,17],[]),([18,11,17,0,1,2,3,4,5,6,7,8,9,10,11,12,13,14,15,16,17],[11,18])])
def nomination_fresh.B1:List Nat:=[0,1,3,0,8,31,0,64,255,0,512,2047,1759,8191,16383,32767,65535,131071,262143,524287]
theorem nomination_fresh.tab1:rtab .any (opsOf Try.f12 1)=nomination_fresh.T1:=by kernel_rfl
theorem nomination_fresh.bits1:waitsOk nomination_fresh.T1.2 nomination_fresh.B1=true:=by kernel_rfl
def nomination_fresh.T7:Bool × List (List Nat × List Nat):=(true,[([],[]),([0],[0]),([],[]),([2],[2]),([3],[3]),([1,4,3],[1,4]),([0,1,2,3,4,5],[]),([6,5,5,0,1,2,3,4,5],[5,6])])
def nomination_fresh.B7:List Nat:=[0,1,0,4,12,31,63,127]
theorem nomination_fresh.tab7:rtab .any (opsOf Try.f12 7)=nomination_fresh.T7:=by kernel_rfl
theorem nomination_fresh.bits7:waitsOk nomination_fresh.T7.2 nomination_fresh.B7=true:=by kernel_rfl
set_option maxHeartbeats 8000000 in
set_option maxRecDepth 100000 in
theorem nomination_fresh.calls (k:Nat) (d0:Int) (d1:Int) (d2:Int) (d4:Int) (h8:Int) (j7:Option Addr) (j8:Nat) (h4:List Int) (j2:Option Addr) (j3:Nat) (h2:List (S30)) (d6:ByteArray) (i5:Option Addr) (i6:Nat) (g9:List ByteArray) (h9:Option Addr) (i0:Nat) (g5:List ByteArray) (h5:Option Addr) (h6:Nat) (g0:List ByteArray) (i1:Option Addr) (i2:Nat) (b0:List (S48)) (r1:Int) (r2:Int) (r3:Int) (r4:Int) (r5:Int) (r6:List Int) (r7:List (S30)) (r8:ByteArray) (r9:List ByteArray) (r10:List ByteArray) (r11:List ByteArray) (r12:List (S48)) (w:World) (t7:Kd.C (Kd.int .i64) w j7 h4.length h4) (t8:h4.length≤j8) (t9:Kd.C k30 w j2 h2.length h2) (u0:h2.length≤j3) (u1:Kd.C Kd.string w i5 g9.length g9) (u2:g9.length≤i6) (u3:Kd.C Kd.string w h9 g5.length g5) (u4:g5.length≤i0) (u5:Kd.C Kd.string w h5 g0.length g0) (u6:g0.length≤h6) (u7:Kd.C k48 w i1 b0.length b0) (u9:b0.length≤i2) (h:nomination_fresh.f k d0 d1 d2 d4 h8 h4 h2 d6 g9 g5 g0 b0=some (r1,r2,r3,r4,r5,r6,r7,r8,r9,r10,r11,r12)) :
  Calls Try.prog 12 #[.agg #[.int .i64 d0,.int .i64 d1,.int .i64 d2,.int .i64 d4,.int .i64 h8,.slice j7 h4.length j8,.slice j2 h2.length j3,.string d6,.slice i5 g9.length i6,.slice h9 g5.length i0,.slice h5 g0.length h6,.slice i1 b0.length i2]] w fun e w'=>∃ m6 o1 m3 m4 m5 v0:Value,e = .returned (.agg #[.int .i64 r1,.int .i64 r2,.int .i64 r3,.int .i64 r4,.int .i64 r5,m6,o1,.string r8,m3,m4,m5,v0])∧Kd.R (Kd.int .i64) 3 w' w.heap.size (fun _=>True) m6 r6∧Kd.R k30 30 w' w.heap.size (fun k_=>some k_≠(m6:Value).ownBlock) o1 r7∧Kd.R Kd.string 9 w' w.heap.size (fun k_=>some k_≠(m4:Value).ownBlock∧some k_≠(m5:Value).ownBlock) m3 r9∧Kd.R Kd.string 9 w' w.heap.size (fun k_=>some k_≠(m3:Value).ownBlock∧some k_≠(m5:Value).ownBlock) m4 r10∧Kd.R Kd.string 9 w' w.heap.size (fun k_=>some k_≠(m3:Value).ownBlock∧some k_≠(m4:Value).ownBlock) m5 r11∧Kd.R k48 48 w' w.heap.size (fun k_=>some k_≠(m6:Value).ownBlock∧some k_≠(o1:Value).ownBlock∧some k_≠(m3:Value).ownBlock∧some k_≠(m4:Value).ownBlock∧some k_≠(m5:Value).ownBlock) v0 r12∧Below w.heap.size w w':=by
 have hu33:=Try.underlying33
 have hu30:=Try.underlying30
 have hu48:=Try.underlying48
 have z5:=Aside0.mk t7
 have z6:=Aside0.mk t8
 clear t7 t8
 have z7:=Aside0.mk t9
 have z8:=Aside0.mk u0
 clear t9 u0
 have z9:=Aside0.mk u1
 have A0:=Aside0.mk u2
 clear u1 u2
 have A1:=Aside0.mk u3
 have A6:=Aside0.mk u4
 clear u3 u4
 have A7:=Aside0.mk u5
 have A8:=Aside0.mk u6
 clear u5 u6
 have A9:=Aside0.mk u7
 have H6:=Aside0.mk u9
 clear u7 u9
 have HB:=Aside0.mk (Below.refl w.heap.size w)
 have H:((nomination_trust.f k h8 h4 h2).bind fun k2=>((slices_Clone_string_string.f g9).bind fun b8=>((slices_Clone_string_string.f g5).bind fun b9=>((slices_Clone_string_string.f g0).bind fun c0=>(nomination_fresh.l0 k b0 (b0.length:Int) 0 d0 d1 d2 d4 k2.1 k2.2.1 k2.2.2 d6 b8 b9 c0 ([]:List (S48)))))))=some (r1,r2,r3,r4,r5,r6,r7,r8,r9,r10,r11,r12):=h
 clear h
 replace H:=Option.bind_eq_some_iff.mp H
 obtain ⟨⟨d5,c1,d3⟩,v1,H⟩:=H
 replace H:((slices_Clone_string_string.f g9).bind fun b8=>((slices_Clone_string_string.f g5).bind fun b9=>((slices_Clone_string_string.f g0).bind fun c0=>(nomination_fresh.l0 k b0 (b0.length:Int) 0 d0 d1 d2 d4 d5 c1 d3 d6 b8 b9 c0 ([]:List (S48))))))=some (r1,r2,r3,r4,r5,r6,r7,r8,r9,r10,r11,r12):=H
 have A2:=Aside0.mk v1
 clear v1
 replace H:=Option.bind_eq_some_iff.mp H
 obtain ⟨b8,v2,H⟩:=H
 replace H:((slices_Clone_string_string.f g5).bind fun b9=>((slices_Clone_string_string.f g0).bind fun c0=>(nomination_fresh.l0 k b0 (b0.length:Int) 0 d0 d1 d2 d4 d5 c1 d3 d6 b8 b9 c0 ([]:List (S48)))))=some (r1,r2,r3,r4,r5,r6,r7,r8,r9,r10,r11,r12):=H
 have A3:=Aside0.mk v2
 clear v2
 replace H:=Option.bind_eq_some_iff.mp H
 obtain ⟨b9,v3,H⟩:=H
 replace H:((slices_Clone_string_string.f g0).bind fun c0=>(nomination_fresh.l0 k b0 (b0.length:Int) 0 d0 d1 d2 d4 d5 c1 d3 d6 b8 b9 c0 ([]:List (S48))))=some (r1,r2,r3,r4,r5,r6,r7,r8,r9,r10,r11,r12):=H
 have A4:=Aside0.mk v3
 clear v3
 replace H:=Option.bind_eq_some_iff.mp H
 obtain ⟨c0,v4,H⟩:=H
 replace H:(nomination_fresh.l0 k b0 (b0.length:Int) 0 d0 d1 d2 d4 d5 c1 d3 d6 b8 b9 c0 ([]:List (S48)))=some (r1,r2,r3,r4,r5,r6,r7,r8,r9,r10,r11,r12):=H
 have A5:=Aside0.mk v4
 clear v4
 have H':=Aside0.mk H
 clear H
 go_enter Try.func12,Try.ntmps12
 try go_wp2_with (first|((with_reducible refine gate_dst (N:=1) rfl ?_);refine box_event ?hg (N:=1) ?hd (cs:=#[.int .i64 d0,.int .i64 d1,.int .i64 d2,.int .i64 d4,.int .i64 h8,.slice j7 h4.length j8,.slice j2 h2.length j3,.string d6,.slice i5 g9.length i6,.slice h9 g5.length i0,.slice h5 g0.length h6,.slice i1 b0.length i2]) (t:=33) ?hr ?_;(case hd=>rfl);(case hg=>rfl);(case hr=>first|(go_simp;done)|(go_simp;rfl));intro b5 hg w6 hbox hb;refine ap4 (below_step (belowP HB) hb) (hbox) ((by rw [hg];exact (below_size (belowP HB)):w.heap.size≤b5)) ((by rw [hg];exact (below_size (belowP HB)):w.heap.size≤b5)) ?_;clear HB;intro HB b2 GW187 m7;clear hb hbox hg)|((with_reducible refine gate_dst (N:=2) rfl ?_);refine box_event ?hg (N:=2) ?hd (cs:=#[.int .i64 0,.int .i64 0,.int .i64 0,.int .i64 0,.int .i64 0,.slice none 0 0,.slice none 0 0,.string (⟨#[]⟩:ByteArray),.slice none 0 0,.slice none 0 0,.slice none 0 0,.slice none 0 0]) (t:=33) ?hr ?_;(case hd=>rfl);(case hg=>rfl);(case hr=>first|(go_simp;done)|(go_simp;rfl));intro b4 hg w7 hbox hb;refine ap7 (blk_below (blkP b2) hb) (below_step (belowP HB) hb) (hbox) ((by rw [hg];exact (below_size (belowP HB)):w.heap.size≤b4)) ((by rw [hg];exact (below_size (belowP HB)):w.heap.size≤b4)) ((by rw [hg];exact Nat.ne_of_lt (blk_lt (blkP b2)):b5≠b4)) ((by rw [hg];exact Nat.ne_of_gt (blk_lt (blkP b2)):b4≠b5)) ?_;clear b2 HB;intro b2 HB b7 GW188 m8 j4 h1;clear hb hbox hg))
 refine ap3 (blk_drew b2.out) (blk_drew b7.out) (below_drew1 HB.out) ?_
 clear b2 b7 HB
 intro b2 b7 HB
 refine start_ (n:=20) (S:=fun w'=>w'.cell? ⟨b5,0,none⟩=some (.int .i64 d0)∧w'.cell? ⟨b5,1,none⟩=some (.int .i64 d1)∧w'.cell? ⟨b5,2,none⟩=some (.int .i64 d2)∧w'.cell? ⟨b5,3,none⟩=some (.int .i64 d4)∧w'.cell? ⟨b5,4,none⟩=some (.int .i64 h8)∧w'.cell? ⟨b5,5,none⟩=some (.slice j7 h4.length j8)∧w'.cell? ⟨b5,6,none⟩=some (.slice j2 h2.length j3)∧w'.cell? ⟨b5,7,none⟩=some (.string d6)∧w'.cell? ⟨b5,8,none⟩=some (.slice i5 g9.length i6)∧w'.cell? ⟨b5,9,none⟩=some (.slice h9 g5.length i0)∧w'.cell? ⟨b5,10,none⟩=some (.slice h5 g0.length h6)∧w'.cell? ⟨b5,11,none⟩=some (.slice i1 b0.length i2)) (ds:=[13,15,17,19]) #[false,false,false,false,false,false,false,false,false,false,false,false,false,false,false,false,false,false,false,false] (by kernel_rfl) rfl rfl ⟨(blk_cell b2.out 0).trans rfl,(blk_cell b2.out 1).trans rfl,(blk_cell b2.out 2).trans rfl,(blk_cell b2.out 3).trans rfl,(blk_cell b2.out 4).trans rfl,(blk_cell b2.out 5).trans rfl,(blk_cell b2.out 6).trans rfl,(blk_cell b2.out 7).trans rfl,(blk_cell b2.out 8).trans rfl,(blk_cell b2.out 9).trans rfl,(blk_cell b2.out 10).trans rfl,(blk_cell b2.out 11).trans rfl⟩ (fun hHeld=>?_);refine with_tabW nomination_fresh.tab1 nomination_fresh.bits1 (fun HT_ HW_=>?_)
 generalize w7.drew=w8 at b2 b7 HB hHeld ⊢
 refine pure_ (i:=0) (N:=some 6) #[true,false,false,false,false,false,false,false,false,false,false,false,false,false,false,false,false,false,false,false] rfl rfl (any_of HT_.out (by kernel_rfl)) (fun _ _ _ h=>h) (Or.inl ⟨by rfl,tz4⟩) tz1 ?_
 refine pure_ (i:=3) (N:=some 9) #[true,false,false,true,false,false,false,false,false,false,false,false,false,false,false,false,false,false,false,false] rfl rfl (any_of HT_.out (by kernel_rfl)) (fun _ _ _ h=>h) (Or.inl ⟨by rfl,tz4⟩) tz1 ?_
 refine pure_ (i:=6) (N:=some 12) #[true,false,false,true,false,false,true,false,false,false,false,false,false,false,false,false,false,false,false,false] rfl rfl (any_of HT_.out (by kernel_rfl)) (fun _ _ _ h=>h) (Or.inl ⟨by rfl,tz4⟩) tz1 ?_
 refine pure_ (i:=9) (N:=some 15) #[true,false,false,true,false,false,true,false,false,true,false,false,false,false,false,false,false,false,false,false] rfl rfl (any_of HT_.out (by kernel_rfl)) (fun _ _ _ h=>h) (Or.inl ⟨by rfl,tz4⟩) tz1 ?_
 refine take_ (i:=1) (N:=some 7) #[true,true,false,true,false,false,true,false,false,true,false,false,false,false,false,false,false,false,false,false] rfl rfl (take_ofW HT_.out HW_.out (by kernel_rfl)) (fun _ _ _ h=>h) (Or.inl ⟨by rfl,tz5⟩) hHeld tz1 ?_
 refine take_ (i:=4) (N:=some 10) #[true,true,false,true,true,false,true,false,false,true,false,false,false,false,false,false,false,false,false,false] rfl rfl (take_ofW HT_.out HW_.out (by kernel_rfl)) (fun _ _ _ h=>h) (Or.inl ⟨by rfl,tz5⟩) hHeld tz1 ?_
 refine take_ (i:=7) (N:=some 13) #[true,true,false,true,true,false,true,true,false,true,false,false,false,false,false,false,false,false,false,false] rfl rfl (take_ofW HT_.out HW_.out (by kernel_rfl)) (fun _ _ _ h=>h) (Or.inl ⟨by rfl,tz5⟩) hHeld tz1 ?_
 refine take_ (i:=10) (N:=some 16) #[true,true,false,true,true,false,true,true,false,true,true,false,false,false,false,false,false,false,false,false] rfl rfl (take_ofW HT_.out HW_.out (by kernel_rfl)) (fun _ _ _ h=>h) (Or.inl ⟨by rfl,tz5⟩) hHeld tz1 ?_
 refine one_ (i:=2) (N:=some 8) #[true,true,true,true,true,false,true,true,false,true,true,false,false,false,false,false,false,false,false,false] rfl rfl (one_of HT_.out (by kernel_rfl)) (by decide) (fun K hK=>?_)
 refine goes_ Try.func20 (by kernel_rfl) rfl #[.agg #[.int .i64 h8,.slice j7 h4.length j8,.slice j2 h2.length j3]] (by rfl) rfl rfl tz0 ?_
 with_reducible refine (nomination_trust.calls k h8 _ _ h4 _ _ h2 d5 c1 d3 _ ?side1 ?side2 ?side3 ?side4 A2.out).mono ?_
 (case side1=>exact Kd.C_q (Kd.C_below z5.out HB.out))
 (case side2=>exact z6.out)
 (case side3=>exact Kd.C_q (Kd.C_below z7.out HB.out))
 (case side4=>exact z8.out)
 rintro e w9 ⟨H7,H8,rfl,g6,k3,hb⟩
 refine ⟨_,rfl,?_⟩
 refine ap5 (Kd.R_lower g6 (below_size (belowP HB))) (Kd.R_lower k3 (below_size (belowP HB))) (blk_below (blkP b2) hb) (blk_below (blkP b7) hb) (below_step (belowP HB) hb) ?_
 clear b2 b7 HB
 intro i3 i4 b2 b7 HB
 (try clear hb)
 (try clear hb2)
 (try clear hk)
 (try clear hi)
 (try clear g6)
 (try clear k3)
 refine hK.out _ _ ⟨(blk_cell b2.out 0).trans rfl,(blk_cell b2.out 1).trans rfl,(blk_cell b2.out 2).trans rfl,(blk_cell b2.out 3).trans rfl,(blk_cell b2.out 4).trans rfl,(blk_cell b2.out 5).trans rfl,(blk_cell b2.out 6).trans rfl,(blk_cell b2.out 7).trans rfl,(blk_cell b2.out 8).trans rfl,(blk_cell b2.out 9).trans rfl,(blk_cell b2.out 10).trans rfl,(blk_cell b2.out 11).trans rfl⟩ (fun hHeld=>?_)
 clear hK K
 refine norm_ (a':=?_) ?_ ?_
 rotate_left
 ·show Act.put _ (some 8) _=_
  simp only [Act.put,List.setIfInBounds_toArray,List.set_cons_zero,List.set_cons_succ,i64_w,i32_w]
  rfl
 refine pure_ (i:=12) (N:=some 18) #[true,true,true,true,true,false,true,true,false,true,true,false,true,false,false,false,false,false,false,false] rfl rfl (any_of HT_.out (by kernel_rfl)) (fun _ _ _ h=>h) (Or.inl ⟨by rfl,tz4⟩) tz1 ?_
 refine one_ (i:=5) (N:=some 11) #[true,true,true,true,true,true,true,true,false,true,true,false,true,false,false,false,false,false,false,false] rfl rfl (one_of HT_.out (by kernel_rfl)) (by decide) (fun K hK=>?_)
 refine goes_ Try.func21 (by kernel_rfl) rfl #[.slice i5 g9.length i6] (by rfl) rfl rfl tz0 ?_
 with_reducible refine (slices_Clone_string_string.calls _ _ g9 b8 _ ?side1 ?side2 A3.out).mono ?_
 (case side1=>exact Kd.C_q (Kd.C_below z9.out HB.out))
 (case side2=>exact A0.out)
 rintro e H9 ⟨I0,rfl,g6,hb⟩
 refine ⟨_,rfl,?_⟩
 refine ap6 (Kd.R_below (Kd.R_q i3.out) hb) (Kd.R_below (Kd.R_q i4.out) hb) (Kd.R_lower g6 (below_size (belowP HB))) (blk_below (blkP b2) hb) (blk_below (blkP b7) hb) (below_step (belowP HB) hb) ?_
 clear i3 i4 b2 b7 HB
 intro i3 i4 i7 b2 b7 HB
 (try clear hb)
 (try clear hb2)
 (try clear hk)
 (try clear hi)
 (try clear g6)
 refine hK.out _ _ ⟨(blk_cell b2.out 0).trans rfl,(blk_cell b2.out 1).trans rfl,(blk_cell b2.out 2).trans rfl,(blk_cell b2.out 3).trans rfl,(blk_cell b2.out 4).trans rfl,(blk_cell b2.out 5).trans rfl,(blk_cell b2.out 6).trans rfl,(blk_cell b2.out 7).trans rfl,(blk_cell b2.out 8).trans rfl,(blk_cell b2.out 9).trans rfl,(blk_cell b2.out 10).trans rfl,(blk_cell b2.out 11).trans rfl⟩ (fun hHeld=>?_)
 clear hK K
 refine norm_ (a':=?_) ?_ ?_
 rotate_left
 ·show Act.put _ (some 11) _=_
  simp only [Act.put,List.setIfInBounds_toArray,List.set_cons_zero,List.set_cons_succ,i64_w,i32_w]
  rfl
 refine one_ (i:=8) (N:=some 14) #[true,true,true,true,true,true,true,true,true,true,true,false,true,false,false,false,false,false,false,false] rfl rfl (one_of HT_.out (by kernel_rfl)) (by decide) (fun K hK=>?_)
 refine goes_ Try.func21 (by kernel_rfl) rfl #[.slice h9 g5.length i0] (by rfl) rfl rfl tz0 ?_
 with_reducible refine (slices_Clone_string_string.calls _ _ g5 b9 _ ?side1 ?side2 A4.out).mono ?_
 (case side1=>exact Kd.C_q (Kd.C_below A1.out HB.out))
 (case side2=>exact A6.out)
 rintro e I1 ⟨I2,rfl,g6,hb⟩
 refine ⟨_,rfl,?_⟩
 refine ap7 (Kd.R_below (Kd.R_q i3.out) hb) (Kd.R_below (Kd.R_q i4.out) hb) (Kd.R_elder' (Kd.R_q i7.out) (Kd.R_base g6) hb) (Kd.R_lower (Kd.R_new' g6 (Kd.R_lt (Kd.R_q i7.out))) (below_size (belowP HB))) (blk_below (blkP b2) hb) (blk_below (blkP b7) hb) (below_step (belowP HB) hb) ?_
 clear i3 i4 i7 b2 b7 HB
 intro i3 i4 i7 k8 b2 b7 HB
 (try clear hb)
 (try clear hb2)
 (try clear hk)
 (try clear hi)
 (try clear g6)
 refine hK.out _ _ ⟨(blk_cell b2.out 0).trans rfl,(blk_cell b2.out 1).trans rfl,(blk_cell b2.out 2).trans rfl,(blk_cell b2.out 3).trans rfl,(blk_cell b2.out 4).trans rfl,(blk_cell b2.out 5).trans rfl,(blk_cell b2.out 6).trans rfl,(blk_cell b2.out 7).trans rfl,(blk_cell b2.out 8).trans rfl,(blk_cell b2.out 9).trans rfl,(blk_cell b2.out 10).trans rfl,(blk_cell b2.out 11).trans rfl⟩ (fun hHeld=>?_)
 clear hK K
 refine norm_ (a':=?_) ?_ ?_
 rotate_left
 ·show Act.put _ (some 14) _=_
  simp only [Act.put,List.setIfInBounds_toArray,List.set_cons_zero,List.set_cons_succ,i64_w,i32_w]
  rfl
 refine one_ (i:=11) (N:=some 17) #[true,true,true,true,true,true,true,true,true,true,true,true,true,false,false,false,false,false,false,false] rfl rfl (one_of HT_.out (by kernel_rfl)) (by decide) (fun K hK=>?_)
 refine goes_ Try.func21 (by kernel_rfl) rfl #[.slice h5 g0.length h6] (by rfl) rfl rfl tz0 ?_
 with_reducible refine (slices_Clone_string_string.calls _ _ g0 c0 _ ?side1 ?side2 A5.out).mono ?_
 (case side1=>exact Kd.C_q (Kd.C_below A7.out HB.out))
 (case side2=>exact A8.out)
 rintro e k9 ⟨I3,rfl,g6,hb⟩
 refine ⟨_,rfl,?_⟩
 refine ap8 (Kd.R_below (Kd.R_q i3.out) hb) (Kd.R_below (Kd.R_q i4.out) hb) (Kd.R_elder' (Kd.R_q i7.out) (Kd.R_base g6) hb) (Kd.R_elder' (Kd.R_q k8.out) (Kd.R_base g6) hb) (Kd.R_lower (Kd.R_new' (Kd.R_new' g6 (Kd.R_lt (Kd.R_q i7.out))) (Kd.R_lt (Kd.R_q k8.out))) (below_size (belowP HB))) (blk_below (blkP b2) hb) (blk_below (blkP b7) hb) (below_step (belowP HB) hb) ?_
 clear i3 i4 i7 k8 b2 b7 HB
 intro i3 i4 i7 k8 v5 b2 b7 HB
 (try clear hb)
 (try clear hb2)
 (try clear hk)
 (try clear hi)
 (try clear g6)
 obtain ⟨d7,d8,v6⟩:=Kd.R_slice i3.out
 (first|subst v6|(injection v6 with f1_ f2_ f3_;have f4_:=f1_.symm;have f5_:=f3_.symm;clear f1_ f2_ f3_;subst f4_;subst f5_))
 obtain ⟨e1,e2,v7⟩:=Kd.R_slice i4.out
 (first|subst v7|(injection v7 with f1_ f2_ f3_;have f4_:=f1_.symm;have f5_:=f3_.symm;clear f1_ f2_ f3_;subst f4_;subst f5_))
 obtain ⟨d9,e0,v8⟩:=Kd.R_slice i7.out
 (first|subst v8|(injection v8 with f1_ f2_ f3_;have f4_:=f1_.symm;have f5_:=f3_.symm;clear f1_ f2_ f3_;subst f4_;subst f5_))
 obtain ⟨e3,e4,v9⟩:=Kd.R_slice k8.out
 (first|subst v9|(injection v9 with f1_ f2_ f3_;have f4_:=f1_.symm;have f5_:=f3_.symm;clear f1_ f2_ f3_;subst f4_;subst f5_))
 obtain ⟨e6,e7,w2⟩:=Kd.R_slice v5.out
 (first|subst w2|(injection w2 with f1_ f2_ f3_;have f4_:=f1_.symm;have f5_:=f3_.symm;clear f1_ f2_ f3_;subst f4_;subst f5_))
 refine hK.out _ _ ⟨(blk_cell b2.out 0).trans rfl,(blk_cell b2.out 1).trans rfl,(blk_cell b2.out 2).trans rfl,(blk_cell b2.out 3).trans rfl,(blk_cell b2.out 4).trans rfl,(blk_cell b2.out 5).trans rfl,(blk_cell b2.out 6).trans rfl,(blk_cell b2.out 7).trans rfl,(blk_cell b2.out 8).trans rfl,(blk_cell b2.out 9).trans rfl,(blk_cell b2.out 10).trans rfl,(blk_cell b2.out 11).trans rfl⟩ (fun hHeld=>?_)
 clear hK K
 refine norm_ (a':=?_) ?_ ?_
 rotate_left
 ·show Act.put _ (some 17) _=_
  simp only [Act.put,List.setIfInBounds_toArray,List.set_cons_zero,List.set_cons_succ,i64_w,i32_w]
  rfl
 refine last_ (i:=13) (N:=none) #[true,true,true,true,true,true,true,true,true,true,true,true,true,true,false,false,false,false,false,false] rfl rfl (one_of HT_.out (by kernel_rfl)) (by decide) (fun K hK=>?_)
 have I4:k9.cell? ⟨b5,4,none⟩=some (.int .i64 h8):=(blk_cell b2.out 4).trans rfl
 have hfs13:=blk_frozen b2.out 4
 have hns13_1:=h1.out
 have hms13_1:=j4.out
 have I5:k9.cell? ⟨b5,5,none⟩=some (.slice j7 h4.length j8):=(blk_cell b2.out 5).trans rfl
 have hfs15:=blk_frozen b2.out 5
 have hns15_1:=h1.out
 have hms15_1:=j4.out
 have I6:k9.cell? ⟨b5,6,none⟩=some (.slice j2 h2.length j3):=(blk_cell b2.out 6).trans rfl
 have hfs17:=blk_frozen b2.out 6
 have hns17_1:=h1.out
 have hms17_1:=j4.out
 refine skip_ (w1:=?_) (by rfl) rfl ?_ ?_
 rotate_left
 ·go_simp
  rfl
 refine hK.out _ _ ?_
 clear hK K
 refine pure_ (i:=14) (N:=some 19) #[true,true,true,true,true,true,true,true,true,true,true,true,true,true,true,false,false,false,false,false] rfl rfl (any_of HT_.out (by kernel_rfl)) (fun _ _ _ h=>h) (Or.inl ⟨by rfl,tz4⟩) tz1 ?_
 refine last_ (i:=15) (N:=none) #[true,true,true,true,true,true,true,true,true,true,true,true,true,true,true,true,false,false,false,false] rfl rfl (one_of HT_.out (by kernel_rfl)) (by decide) (fun K hK=>?_)
 have I7:k9.cell? ⟨b5,8,none⟩=some (.slice i5 g9.length i6):=(blk_cell b2.out 8).trans rfl
 have hfs19:=blk_frozen b2.out 8
 have hns19_1:=h1.out
 have hms19_1:=j4.out
 refine skip_ (w1:=?_) (by rfl) rfl ?_ ?_
 rotate_left
 ·go_simp
  rfl
 refine hK.out _ _ ?_
 clear hK K
 refine pure_ (i:=16) (N:=some 20) #[true,true,true,true,true,true,true,true,true,true,true,true,true,true,true,true,true,false,false,false] rfl rfl (any_of HT_.out (by kernel_rfl)) (fun _ _ _ h=>h) (Or.inl ⟨by rfl,tz4⟩) tz1 ?_
 refine last_ (i:=17) (N:=none) #[true,true,true,true,true,true,true,true,true,true,true,true,true,true,true,true,true,true,false,false] rfl rfl (one_of HT_.out (by kernel_rfl)) (by decide) (fun K hK=>?_)
 have I8:k9.cell? ⟨b5,9,none⟩=some (.slice h9 g5.length i0):=(blk_cell b2.out 9).trans rfl
 have hfs21:=blk_frozen b2.out 9
 have hns21_1:=h1.out
 have hms21_1:=j4.out
 refine skip_ (w1:=?_) (by rfl) rfl ?_ ?_
 rotate_left
 ·go_simp
  rfl
 refine hK.out _ _ ?_
 clear hK K
 refine pure_ (i:=18) (N:=some 21) #[true,true,true,true,true,true,true,true,true,true,true,true,true,true,true,true,true,true,true,false] rfl rfl (any_of HT_.out (by kernel_rfl)) (fun _ _ _ h=>h) (Or.inl ⟨by rfl,tz4⟩) tz1 ?_
 refine last_ (i:=19) (N:=none) #[true,true,true,true,true,true,true,true,true,true,true,true,true,true,true,true,true,true,true,true] rfl rfl (one_of HT_.out (by kernel_rfl)) (by decide) (fun K hK=>?_)
 have I9:k9.cell? ⟨b5,10,none⟩=some (.slice h5 g0.length h6):=(blk_cell b2.out 10).trans rfl
 have hfs23:=blk_frozen b2.out 10
 have hns23_1:=h1.out
 have hms23_1:=j4.out
 refine skip_ (w1:=?_) (by rfl) rfl ?_ ?_
 rotate_left
 ·go_simp
  rfl
 refine hK.out _ _ ?_
 clear hK K
 refine done_ (done_of HT_.out (by kernel_rfl)) ?_
 have J0:=j4.out
 have J1:=h1.out
 obtain ⟨B0,B2,C0,C1,C2,C3,C4,C5,C6,C7,C8,C9⟩:=cells12 b2.out
 obtain ⟨D0,D1,D2,D3,D4,D5,D6,D7,D8,D9,E0,E1⟩:=froz12 b2.out
 try go_wp2
 go_loopg [27] k (fun kq E2 w'=>∃ (b1:Int) (h3:List (S48)) (i8:Value),E2 = .int .i64 b1∧Aside0 (nomination_fresh.l0 kq b0 (b0.length:Int) b1 d0 d1 d2 d4 d5 c1 d3 d6 b8 b9 c0 h3=some (r1,r2,r3,r4,r5,r6,r7,r8,r9,r10,r11,r12))∧Aside0 (kq≤k)∧Aside0 (Kd.R (Kd.int .i64) 3 w' w.heap.size (fun _=>True) (.slice d7 c1.length d8) c1)∧Aside0 (Kd.R k30 30 w' w.heap.size (fun k_=>some k_≠((.slice d7 c1.length d8):Value).ownBlock) (.slice e1 d3.length e2) d3)∧Aside0 (Kd.R Kd.string 9 w' w.heap.size (fun k_=>some k_≠((.slice e3 b9.length e4):Value).ownBlock∧some k_≠((.slice e6 c0.length e7):Value).ownBlock) (.slice d9 b8.length e0) b8)∧Aside0 (Kd.R Kd.string 9 w' w.heap.size (fun k_=>some k_≠((.slice d9 b8.length e0):Value).ownBlock∧some k_≠((.slice e6 c0.length e7):Value).ownBlock) (.slice e3 b9.length e4) b9)∧Aside0 (Kd.R Kd.string 9 w' w.heap.size (fun k_=>some k_≠((.slice d9 b8.length e0):Value).ownBlock∧some k_≠((.slice e3 b9.length e4):Value).ownBlock) (.slice e6 c0.length e7) c0)∧Aside0 (Kd.R k48 48 w' w.heap.size (fun k_=>some k_≠((.slice d7 c1.length d8):Value).ownBlock∧some k_≠((.slice e1 d3.length e2):Value).ownBlock∧some k_≠((.slice d9 b8.length e0):Value).ownBlock∧some k_≠((.slice e3 b9.length e4):Value).ownBlock∧some k_≠((.slice e6 c0.length e7):Value).ownBlock) i8 h3)∧Aside0 (w'.heap[b5]? = some (.cells #[.int .i64 d0,.int .i64 d1,.int .i64 d2,.int .i64 d4,.int .i64 d5,(.slice d7 c1.length d8),(.slice e1 d3.length e2),.string d6,(.slice d9 b8.length e0),(.slice e3 b9.length e4),(.slice e6 c0.length e7),i8] 33 (0,0)))∧Aside0 (w'.heap[b4]? = some (.cells #[.int .i64 0,.int .i64 0,.int .i64 0,.int .i64 0,.int .i64 0,(.slice none 0 0),(.slice none 0 0),.string (⟨#[]⟩:ByteArray),(.slice none 0 0),(.slice none 0 0),(.slice none 0 0),(.slice none 0 0)] 33 (0,0)))∧Aside0 (Below w.heap.size w w'))
 case atStart=>exact ⟨(0),(([]:List (S48))),(.slice none 0 0),tz3,H',⟨Nat.le_refl _⟩,⟨by refine Kd.R_q ?_;exact Kd.R_mono (Kd.R_far (p:=⟨b5,11,none⟩) (Kd.R_far (p:=⟨b5,10,none⟩) (Kd.R_far (p:=⟨b5,9,none⟩) (Kd.R_far (p:=⟨b5,8,none⟩) (Kd.R_far (p:=⟨b5,6,none⟩) (Kd.R_far (p:=⟨b5,5,none⟩) (Kd.R_far (p:=⟨b5,4,none⟩) (Kd.R_types i3.out b2.out (by decide)) (fun _ hk=>hk.2) (.int .i64 d5)) (fun _ hk=>hk.2) (.slice d7 c1.length d8)) (fun _ hk=>hk.2) (.slice e1 d3.length e2)) (fun _ hk=>hk.2) (.slice d9 b8.length e0)) (fun _ hk=>hk.2) (.slice e3 b9.length e4)) (fun _ hk=>hk.2) (.slice e6 c0.length e7)) (fun _ hk=>hk.2) (.slice none 0 0)) (fun _ hk=>trivial)⟩,⟨by refine Kd.R_q ?_;exact Kd.R_mono (Kd.R_far (p:=⟨b5,11,none⟩) (Kd.R_far (p:=⟨b5,10,none⟩) (Kd.R_far (p:=⟨b5,9,none⟩) (Kd.R_far (p:=⟨b5,8,none⟩) (Kd.R_far (p:=⟨b5,6,none⟩) (Kd.R_far (p:=⟨b5,5,none⟩) (Kd.R_far (p:=⟨b5,4,none⟩) (Kd.R_types i4.out b2.out (by decide)) (fun _ hk=>hk.2) (.int .i64 d5)) (fun _ hk=>hk.2) (.slice d7 c1.length d8)) (fun _ hk=>hk.2) (.slice e1 d3.length e2)) (fun _ hk=>hk.2) (.slice d9 b8.length e0)) (fun _ hk=>hk.2) (.slice e3 b9.length e4)) (fun _ hk=>hk.2) (.slice e6 c0.length e7)) (fun _ hk=>hk.2) (.slice none 0 0)) (fun _ hk=>hk.1)⟩,⟨by refine Kd.R_q ?_;exact Kd.R_mono (Kd.R_far (p:=⟨b5,11,none⟩) (Kd.R_far (p:=⟨b5,10,none⟩) (Kd.R_far (p:=⟨b5,9,none⟩) (Kd.R_far (p:=⟨b5,8,none⟩) (Kd.R_far (p:=⟨b5,6,none⟩) (Kd.R_far (p:=⟨b5,5,none⟩) (Kd.R_far (p:=⟨b5,4,none⟩) (Kd.R_types i7.out b2.out (by decide)) (fun _ hk=>hk.2) (.int .i64 d5)) (fun _ hk=>hk.2) (.slice d7 c1.length d8)) (fun _ hk=>hk.2) (.slice e1 d3.length e2)) (fun _ hk=>hk.2) (.slice d9 b8.length e0)) (fun _ hk=>hk.2) (.slice e3 b9.length e4)) (fun _ hk=>hk.2) (.slice e6 c0.length e7)) (fun _ hk=>hk.2) (.slice none 0 0)) (fun _ hk=>⟨hk.1.1.2,hk.1.2⟩)⟩,⟨by refine Kd.R_q ?_;exact Kd.R_mono (Kd.R_far (p:=⟨b5,11,none⟩) (Kd.R_far (p:=⟨b5,10,none⟩) (Kd.R_far (p:=⟨b5,9,none⟩) (Kd.R_far (p:=⟨b5,8,none⟩) (Kd.R_far (p:=⟨b5,6,none⟩) (Kd.R_far (p:=⟨b5,5,none⟩) (Kd.R_far (p:=⟨b5,4,none⟩) (Kd.R_types k8.out b2.out (by decide)) (fun _ hk=>hk.2) (.int .i64 d5)) (fun _ hk=>hk.2) (.slice d7 c1.length d8)) (fun _ hk=>hk.2) (.slice e1 d3.length e2)) (fun _ hk=>hk.2) (.slice d9 b8.length e0)) (fun _ hk=>hk.2) (.slice e3 b9.length e4)) (fun _ hk=>hk.2) (.slice e6 c0.length e7)) (fun _ hk=>hk.2) (.slice none 0 0)) (fun _ hk=>⟨hk.1.1.2,hk.1.2⟩)⟩,⟨by refine Kd.R_q ?_;exact Kd.R_mono (Kd.R_far (p:=⟨b5,11,none⟩) (Kd.R_far (p:=⟨b5,10,none⟩) (Kd.R_far (p:=⟨b5,9,none⟩) (Kd.R_far (p:=⟨b5,8,none⟩) (Kd.R_far (p:=⟨b5,6,none⟩) (Kd.R_far (p:=⟨b5,5,none⟩) (Kd.R_far (p:=⟨b5,4,none⟩) (Kd.R_types v5.out b2.out (by decide)) (fun _ hk=>hk.2) (.int .i64 d5)) (fun _ hk=>hk.2) (.slice d7 c1.length d8)) (fun _ hk=>hk.2) (.slice e1 d3.length e2)) (fun _ hk=>hk.2) (.slice d9 b8.length e0)) (fun _ hk=>hk.2) (.slice e3 b9.length e4)) (fun _ hk=>hk.2) (.slice e6 c0.length e7)) (fun _ hk=>hk.2) (.slice none 0 0)) (fun _ hk=>⟨hk.1.1.2,hk.1.2⟩)⟩,⟨by first|exact Kd.R_nil _ _ _ _ _|exact Kd.N_nil _ _ _ _ _|exact Kd.V_nil _ _ _ _ _|exact Kd.Q_nil _ _ _ _ _|exact Kd.S_nil _ _ _ _ _⟩,⟨by refine blkQ ?_;refine blk_put (cs:=#[.int .i64 d0,.int .i64 d1,.int .i64 d2,.int .i64 d4,.int .i64 d5,.slice d7 c1.length d8,.slice e1 d3.length e2,.string d6,.slice d9 b8.length e0,.slice e3 b9.length e4,.slice e6 c0.length e7,.slice i1 b0.length i2]) ?_ 11 _ rfl;refine blkQ ?_;refine blk_put (cs:=#[.int .i64 d0,.int .i64 d1,.int .i64 d2,.int .i64 d4,.int .i64 d5,.slice d7 c1.length d8,.slice e1 d3.length e2,.string d6,.slice d9 b8.length e0,.slice e3 b9.length e4,.slice h5 g0.length h6,.slice i1 b0.length i2]) ?_ 10 _ rfl;refine blkQ ?_;refine blk_put (cs:=#[.int .i64 d0,.int .i64 d1,.int .i64 d2,.int .i64 d4,.int .i64 d5,.slice d7 c1.length d8,.slice e1 d3.length e2,.string d6,.slice d9 b8.length e0,.slice h9 g5.length i0,.slice h5 g0.length h6,.slice i1 b0.length i2]) ?_ 9 _ rfl;refine blkQ ?_;refine blk_put (cs:=#[.int .i64 d0,.int .i64 d1,.int .i64 d2,.int .i64 d4,.int .i64 d5,.slice d7 c1.length d8,.slice e1 d3.length e2,.string d6,.slice i5 g9.length i6,.slice h9 g5.length i0,.slice h5 g0.length h6,.slice i1 b0.length i2]) ?_ 8 _ rfl;refine blkQ ?_;refine blk_put (cs:=#[.int .i64 d0,.int .i64 d1,.int .i64 d2,.int .i64 d4,.int .i64 d5,.slice d7 c1.length d8,.slice j2 h2.length j3,.string d6,.slice i5 g9.length i6,.slice h9 g5.length i0,.slice h5 g0.length h6,.slice i1 b0.length i2]) ?_ 6 _ rfl;refine blkQ ?_;refine blk_put (cs:=#[.int .i64 d0,.int .i64 d1,.int .i64 d2,.int .i64 d4,.int .i64 d5,.slice j7 h4.length j8,.slice j2 h2.length j3,.string d6,.slice i5 g9.length i6,.slice h9 g5.length i0,.slice h5 g0.length h6,.slice i1 b0.length i2]) ?_ 5 _ rfl;refine blkQ ?_;refine blk_put (cs:=#[.int .i64 d0,.int .i64 d1,.int .i64 d2,.int .i64 d4,.int .i64 h8,.slice j7 h4.length j8,.slice j2 h2.length j3,.string d6,.slice i5 g9.length i6,.slice h9 g5.length i0,.slice h5 g0.length h6,.slice i1 b0.length i2]) ?_ 4 _ rfl;refine blkQ ?_;exact b2.out⟩,⟨by refine blkQ ?_;refine blk_far ?_ h1.out _;refine blkQ ?_;refine blk_far ?_ h1.out _;refine blkQ ?_;refine blk_far ?_ h1.out _;refine blkQ ?_;refine blk_far ?_ h1.out _;refine blkQ ?_;refine blk_far ?_ h1.out _;refine blkQ ?_;refine blk_far ?_ h1.out _;refine blkQ ?_;refine blk_far ?_ h1.out _;refine blkQ ?_;exact b7.out⟩,⟨by repeat (first|(with_reducible first|exact HB.out|apply below_alloc|apply pw_below_drewN|apply below_drew1|refine below_set ?_ m7.out|refine below_set ?_ m8.out)|exact HB.out)⟩⟩
 case round=>
  clear H'
  try clear B0
  try clear B2
  try clear C8
  try clear C9
  try clear C0
  try clear C1
  try clear C2
  try clear C3
  try clear C4
  try clear C5
  try clear C6
  try clear C7
  try clear D0
  try clear D1
  try clear E0
  try clear E1
  try clear D2
  try clear D3
  try clear D4
  try clear D5
  try clear D6
  try clear D7
  try clear D8
  try clear D9
  try clear b2
  try clear b7
  try clear HB
  obtain ⟨b1,h3,i8,rfl,HA,w3,e8,e9,f5,f6,f7,e5,b2,b7,HB⟩:=hrel
  cases gk with
  | zero=>exact absurd HA.out (by simp [nomination_fresh.l0])
  | succ k1=>
   have H:=HA.out
   clear HA
   simp only [nomination_fresh.l0] at H
   by_cases l3:b1 < (b0.length:Int)
   ·rw [if_pos l3] at H
    have E3:decide (b1 < (b0.length:Int))=true:=decide_eq_true l3
    clear l3
    by_cases m9:0≤b1
    ·rw [if_pos m9] at H
     have J2:decide (0≤b1)=true:=decide_eq_true m9
     clear m9
     by_cases n0:b1 < (b0.length:Int)
     ·rw [if_pos n0] at H
      have J3:decide (b1 < (b0.length:Int))=true:=decide_eq_true n0
      clear n0
      replace H:=Option.bind_eq_some_iff.mp H
      obtain ⟨⟨l4,l5,l6,l7,l8,l9,m0⟩,w4,H⟩:=H
      replace H:(if h3.length < 1172812402961 then (nomination_fresh.l0 k1 b0 (b0.length:Int) (wrap64 (b1 + 1)) d0 d1 d2 d4 d5 c1 d3 d6 b8 b9 c0 (h3 ++ [(⟨l4,l5,(⟨l6,l7,l8⟩:S30),l9,m0⟩:S48)])) else (none))=some (r1,r2,r3,r4,r5,r6,r7,r8,r9,r10,r11,r12):=H
      have E4:=Aside0.mk w4
      clear w4
      by_cases n1:h3.length < 1172812402961
      ·rw [if_pos n1] at H
       have LMc30:=Aside0.mk n1
       clear n1
       obtain ⟨j5,o2⟩:∃ y_:List (S48),y_=(h3 ++ [(⟨l4,l5,(⟨l6,l7,l8⟩:S30),l9,m0⟩:S48)]):=⟨_,rfl⟩
       replace H:(nomination_fresh.l0 k1 b0 (b0.length:Int) (wrap64 (b1 + 1)) d0 d1 d2 d4 d5 c1 d3 d6 b8 b9 c0 j5)=some (r1,r2,r3,r4,r5,r6,r7,r8,r9,r10,r11,r12):=rH o2 H
       have E5:=Aside0.mk o2
       clear o2
       have H':=Aside0.mk H
       clear H
       have o3:0≤(b1:Int):=of_decide_eq_true tz2
       have o4:b1 < (b0.length:Int):=of_decide_eq_true tz2
       obtain ⟨J4,f8,f9,g1,g2,g3,g4,g7,g8,E6,o5,o6,o7,o8,o9,p0,p1,w5,x0,x1,x2,x3,x4,x5,x6⟩:=at_T48 A9.out b1 o3 o4
       cases E6
       replace o5:=(HB.out.cell (World.block_lt_of_cell? w _ o5)).trans o5
       replace o6:=(HB.out.cell (World.block_lt_of_cell? w _ o6)).trans o6
       replace o7:=(HB.out.cell (World.block_lt_of_cell? w _ o7)).trans o7
       replace o8:=(HB.out.cell (World.block_lt_of_cell? w _ o8)).trans o8
       replace o9:=(HB.out.cell (World.block_lt_of_cell? w _ o9)).trans o9
       replace p0:=(HB.out.cell (World.block_lt_of_cell? w _ p0)).trans p0
       replace p1:=(HB.out.cell (World.block_lt_of_cell? w _ p1)).trans p1
       have E7:=Aside0.mk x0
       have E8:=Aside0.mk w5
       clear x0 w5
       have E9:=Aside0.mk x2
       have F0:=Aside0.mk x1
       clear x2 x1
       have F1:=Aside0.mk x4
       have F2:=Aside0.mk x3
       clear x4 x3
       have F3:=Aside0.mk x6
       have F4:=Aside0.mk x5
       clear x6 x5
       replace o3:=eq_true o3
       replace o4:=eq_true o4
       try go_wp2_with (first|((with_reducible refine gate_dst (N:=5) rfl ?_);refine box_event ?hg (N:=5) ?hd (cs:=#[.int .i64 0,.int .i64 0,.int .i64 0,.slice none 0 0,.slice none 0 0,.slice none 0 0,.slice none 0 0]) (t:=48) ?hr ?_;(case hd=>rfl);(case hg=>rfl);(case hr=>first|(go_simp;done)|(go_simp;rfl));intro b3 hg h0 hbox hb;refine ap16 (Kd.R_below (Kd.R_q e8.out) hb) (Kd.R_below (Kd.R_q e9.out) hb) (Kd.R_below (Kd.R_q f5.out) hb) (Kd.R_below (Kd.R_q f6.out) hb) (Kd.R_below (Kd.R_q f7.out) hb) (Kd.R_below (Kd.R_elderB (Kd.R_q e5.out) b3 (Nat.le_of_eq hg.symm)) hb) (blk_below (blkP b2) hb) (blk_below (blkP b7) hb) (below_step (belowP HB) hb) (hbox) ((by rw [hg];exact (below_size (belowP HB)):w.heap.size≤b3)) ((by rw [hg];exact (below_size (belowP HB)):w.heap.size≤b3)) ((by rw [hg];exact Nat.ne_of_lt (blk_lt (blkP b2)):b5≠b3)) ((by rw [hg];exact Nat.ne_of_gt (blk_lt (blkP b2)):b3≠b5)) ((by rw [hg];exact Nat.ne_of_lt (blk_lt (blkP b7)):b4≠b3)) ((by rw [hg];exact Nat.ne_of_gt (blk_lt (blkP b7)):b3≠b4)) ?_;clear e8 e9 f5 f6 f7 e5 b2 b7 HB;intro e8 e9 f5 f6 f7 e5 b2 b7 HB b6 GW206 x7 j6 x8 j9 F5;clear hb hbox hg;have J5:=x8.out;have J6:=j6.out;have J7:=F5.out;have J8:=j9.out;have J9:h0.cell? ⟨b3,0,none⟩=some (.int .i64 0):=(blk_cell b6.out 0).trans rfl;have K0:h0.cell? ⟨b3,1,none⟩=some (.int .i64 0):=(blk_cell b6.out 1).trans rfl;have K1:h0.cell? ⟨b3,2,none⟩=some (.int .i64 0):=(blk_cell b6.out 2).trans rfl;have K2:h0.cell? ⟨b3,3,none⟩=some (.slice none 0 0):=(blk_cell b6.out 3).trans rfl;have K3:h0.cell? ⟨b3,4,none⟩=some (.slice none 0 0):=(blk_cell b6.out 4).trans rfl;have K4:h0.cell? ⟨b3,5,none⟩=some (.slice none 0 0):=(blk_cell b6.out 5).trans rfl;have K5:h0.cell? ⟨b3,6,none⟩=some (.slice none 0 0):=(blk_cell b6.out 6).trans rfl;have K6:=blk_frozen b6.out 0;have K7:=blk_frozen b6.out 1;have K8:=blk_frozen b6.out 2;have K9:=blk_frozen b6.out 3;have L0:=blk_frozen b6.out 4;have L1:=blk_frozen b6.out 5;have L2:=blk_frozen b6.out 6))
       have p2:Aside0 (Kd.R (Kd.int .i64) 3 (((((((h0.setCell ⟨b3,0,none⟩ (.int .i64 ((rd_T48 b0 b1).f0))).setCell ⟨b3,1,none⟩ (.int .i64 ((rd_T48 b0 b1).f1))).setCell ⟨b3,2,none⟩ (.int .i64 ((rd_T48 b0 b1).f2.f0))).setCell ⟨b3,3,none⟩ (.slice f8 ((rd_T48 b0 b1).f2.f1).length f9)).setCell ⟨b3,4,none⟩ (.slice g1 ((rd_T48 b0 b1).f2.f2).length g2)).setCell ⟨b3,5,none⟩ (.slice g3 ((rd_T48 b0 b1).f3).length g4)).setCell ⟨b3,6,none⟩ (.slice g7 ((rd_T48 b0 b1).f4).length g8)) w.heap.size (fun _=>True) (.slice d7 c1.length d8) c1):=⟨by refine Kd.R_q ?_;exact Kd.R_mono (Kd.R_far (p:=⟨b3,6,none⟩) (Kd.R_far (p:=⟨b3,5,none⟩) (Kd.R_far (p:=⟨b3,4,none⟩) (Kd.R_far (p:=⟨b3,3,none⟩) (Kd.R_far (p:=⟨b3,2,none⟩) (Kd.R_far (p:=⟨b3,1,none⟩) (Kd.R_far (p:=⟨b3,0,none⟩) (Kd.R_types e8.out b6.out (by decide)) (fun _ hk=>hk.2) (.int .i64 ((rd_T48 b0 b1).f0))) (fun _ hk=>hk.2) (.int .i64 ((rd_T48 b0 b1).f1))) (fun _ hk=>hk.2) (.int .i64 ((rd_T48 b0 b1).f2.f0))) (fun _ hk=>hk.2) (.slice f8 ((rd_T48 b0 b1).f2.f1).length f9)) (fun _ hk=>hk.2) (.slice g1 ((rd_T48 b0 b1).f2.f2).length g2)) (fun _ hk=>hk.2) (.slice g3 ((rd_T48 b0 b1).f3).length g4)) (fun _ hk=>hk.2) (.slice g7 ((rd_T48 b0 b1).f4).length g8)) (fun _ hk=>trivial)⟩
       have p3:Aside0 (Kd.R k30 30 (((((((h0.setCell ⟨b3,0,none⟩ (.int .i64 ((rd_T48 b0 b1).f0))).setCell ⟨b3,1,none⟩ (.int .i64 ((rd_T48 b0 b1).f1))).setCell ⟨b3,2,none⟩ (.int .i64 ((rd_T48 b0 b1).f2.f0))).setCell ⟨b3,3,none⟩ (.slice f8 ((rd_T48 b0 b1).f2.f1).length f9)).setCell ⟨b3,4,none⟩ (.slice g1 ((rd_T48 b0 b1).f2.f2).length g2)).setCell ⟨b3,5,none⟩ (.slice g3 ((rd_T48 b0 b1).f3).length g4)).setCell ⟨b3,6,none⟩ (.slice g7 ((rd_T48 b0 b1).f4).length g8)) w.heap.size (fun k_=>some k_≠(.slice d7 c1.length d8:Value).ownBlock) (.slice e1 d3.length e2) d3):=⟨by refine Kd.R_q ?_;exact Kd.R_mono (Kd.R_far (p:=⟨b3,6,none⟩) (Kd.R_far (p:=⟨b3,5,none⟩) (Kd.R_far (p:=⟨b3,4,none⟩) (Kd.R_far (p:=⟨b3,3,none⟩) (Kd.R_far (p:=⟨b3,2,none⟩) (Kd.R_far (p:=⟨b3,1,none⟩) (Kd.R_far (p:=⟨b3,0,none⟩) (Kd.R_types e9.out b6.out (by decide)) (fun _ hk=>hk.2) (.int .i64 ((rd_T48 b0 b1).f0))) (fun _ hk=>hk.2) (.int .i64 ((rd_T48 b0 b1).f1))) (fun _ hk=>hk.2) (.int .i64 ((rd_T48 b0 b1).f2.f0))) (fun _ hk=>hk.2) (.slice f8 ((rd_T48 b0 b1).f2.f1).length f9)) (fun _ hk=>hk.2) (.slice g1 ((rd_T48 b0 b1).f2.f2).length g2)) (fun _ hk=>hk.2) (.slice g3 ((rd_T48 b0 b1).f3).length g4)) (fun _ hk=>hk.2) (.slice g7 ((rd_T48 b0 b1).f4).length g8)) (fun _ hk=>hk.1)⟩
       have p4:Aside0 (Kd.R Kd.string 9 (((((((h0.setCell ⟨b3,0,none⟩ (.int .i64 ((rd_T48 b0 b1).f0))).setCell ⟨b3,1,none⟩ (.int .i64 ((rd_T48 b0 b1).f1))).setCell ⟨b3,2,none⟩ (.int .i64 ((rd_T48 b0 b1).f2.f0))).setCell ⟨b3,3,none⟩ (.slice f8 ((rd_T48 b0 b1).f2.f1).length f9)).setCell ⟨b3,4,none⟩ (.slice g1 ((rd_T48 b0 b1).f2.f2).length g2)).setCell ⟨b3,5,none⟩ (.slice g3 ((rd_T48 b0 b1).f3).length g4)).setCell ⟨b3,6,none⟩ (.slice g7 ((rd_T48 b0 b1).f4).length g8)) w.heap.size (fun k_=>some k_≠(.slice e3 b9.length e4:Value).ownBlock∧some k_≠(.slice e6 c0.length e7:Value).ownBlock) (.slice d9 b8.length e0) b8):=⟨by refine Kd.R_q ?_;exact Kd.R_mono (Kd.R_far (p:=⟨b3,6,none⟩) (Kd.R_far (p:=⟨b3,5,none⟩) (Kd.R_far (p:=⟨b3,4,none⟩) (Kd.R_far (p:=⟨b3,3,none⟩) (Kd.R_far (p:=⟨b3,2,none⟩) (Kd.R_far (p:=⟨b3,1,none⟩) (Kd.R_far (p:=⟨b3,0,none⟩) (Kd.R_types f5.out b6.out (by decide)) (fun _ hk=>hk.2) (.int .i64 ((rd_T48 b0 b1).f0))) (fun _ hk=>hk.2) (.int .i64 ((rd_T48 b0 b1).f1))) (fun _ hk=>hk.2) (.int .i64 ((rd_T48 b0 b1).f2.f0))) (fun _ hk=>hk.2) (.slice f8 ((rd_T48 b0 b1).f2.f1).length f9)) (fun _ hk=>hk.2) (.slice g1 ((rd_T48 b0 b1).f2.f2).length g2)) (fun _ hk=>hk.2) (.slice g3 ((rd_T48 b0 b1).f3).length g4)) (fun _ hk=>hk.2) (.slice g7 ((rd_T48 b0 b1).f4).length g8)) (fun _ hk=>⟨hk.1.1,hk.1.2⟩)⟩
       have p5:Aside0 (Kd.R Kd.string 9 (((((((h0.setCell ⟨b3,0,none⟩ (.int .i64 ((rd_T48 b0 b1).f0))).setCell ⟨b3,1,none⟩ (.int .i64 ((rd_T48 b0 b1).f1))).setCell ⟨b3,2,none⟩ (.int .i64 ((rd_T48 b0 b1).f2.f0))).setCell ⟨b3,3,none⟩ (.slice f8 ((rd_T48 b0 b1).f2.f1).length f9)).setCell ⟨b3,4,none⟩ (.slice g1 ((rd_T48 b0 b1).f2.f2).length g2)).setCell ⟨b3,5,none⟩ (.slice g3 ((rd_T48 b0 b1).f3).length g4)).setCell ⟨b3,6,none⟩ (.slice g7 ((rd_T48 b0 b1).f4).length g8)) w.heap.size (fun k_=>some k_≠(.slice d9 b8.length e0:Value).ownBlock∧some k_≠(.slice e6 c0.length e7:Value).ownBlock) (.slice e3 b9.length e4) b9):=⟨by refine Kd.R_q ?_;exact Kd.R_mono (Kd.R_far (p:=⟨b3,6,none⟩) (Kd.R_far (p:=⟨b3,5,none⟩) (Kd.R_far (p:=⟨b3,4,none⟩) (Kd.R_far (p:=⟨b3,3,none⟩) (Kd.R_far (p:=⟨b3,2,none⟩) (Kd.R_far (p:=⟨b3,1,none⟩) (Kd.R_far (p:=⟨b3,0,none⟩) (Kd.R_types f6.out b6.out (by decide)) (fun _ hk=>hk.2) (.int .i64 ((rd_T48 b0 b1).f0))) (fun _ hk=>hk.2) (.int .i64 ((rd_T48 b0 b1).f1))) (fun _ hk=>hk.2) (.int .i64 ((rd_T48 b0 b1).f2.f0))) (fun _ hk=>hk.2) (.slice f8 ((rd_T48 b0 b1).f2.f1).length f9)) (fun _ hk=>hk.2) (.slice g1 ((rd_T48 b0 b1).f2.f2).length g2)) (fun _ hk=>hk.2) (.slice g3 ((rd_T48 b0 b1).f3).length g4)) (fun _ hk=>hk.2) (.slice g7 ((rd_T48 b0 b1).f4).length g8)) (fun _ hk=>⟨hk.1.1,hk.1.2⟩)⟩
       have p6:Aside0 (Kd.R Kd.string 9 (((((((h0.setCell ⟨b3,0,none⟩ (.int .i64 ((rd_T48 b0 b1).f0))).setCell ⟨b3,1,none⟩ (.int .i64 ((rd_T48 b0 b1).f1))).setCell ⟨b3,2,none⟩ (.int .i64 ((rd_T48 b0 b1).f2.f0))).setCell ⟨b3,3,none⟩ (.slice f8 ((rd_T48 b0 b1).f2.f1).length f9)).setCell ⟨b3,4,none⟩ (.slice g1 ((rd_T48 b0 b1).f2.f2).length g2)).setCell ⟨b3,5,none⟩ (.slice g3 ((rd_T48 b0 b1).f3).length g4)).setCell ⟨b3,6,none⟩ (.slice g7 ((rd_T48 b0 b1).f4).length g8)) w.heap.size (fun k_=>some k_≠(.slice d9 b8.length e0:Value).ownBlock∧some k_≠(.slice e3 b9.length e4:Value).ownBlock) (.slice e6 c0.length e7) c0):=⟨by refine Kd.R_q ?_;exact Kd.R_mono (Kd.R_far (p:=⟨b3,6,none⟩) (Kd.R_far (p:=⟨b3,5,none⟩) (Kd.R_far (p:=⟨b3,4,none⟩) (Kd.R_far (p:=⟨b3,3,none⟩) (Kd.R_far (p:=⟨b3,2,none⟩) (Kd.R_far (p:=⟨b3,1,none⟩) (Kd.R_far (p:=⟨b3,0,none⟩) (Kd.R_types f7.out b6.out (by decide)) (fun _ hk=>hk.2) (.int .i64 ((rd_T48 b0 b1).f0))) (fun _ hk=>hk.2) (.int .i64 ((rd_T48 b0 b1).f1))) (fun _ hk=>hk.2) (.int .i64 ((rd_T48 b0 b1).f2.f0))) (fun _ hk=>hk.2) (.slice f8 ((rd_T48 b0 b1).f2.f1).length f9)) (fun _ hk=>hk.2) (.slice g1 ((rd_T48 b0 b1).f2.f2).length g2)) (fun _ hk=>hk.2) (.slice g3 ((rd_T48 b0 b1).f3).length g4)) (fun _ hk=>hk.2) (.slice g7 ((rd_T48 b0 b1).f4).length g8)) (fun _ hk=>⟨hk.1.1,hk.1.2⟩)⟩
       have p7:Aside0 (Kd.R k48 48 (((((((h0.setCell ⟨b3,0,none⟩ (.int .i64 ((rd_T48 b0 b1).f0))).setCell ⟨b3,1,none⟩ (.int .i64 ((rd_T48 b0 b1).f1))).setCell ⟨b3,2,none⟩ (.int .i64 ((rd_T48 b0 b1).f2.f0))).setCell ⟨b3,3,none⟩ (.slice f8 ((rd_T48 b0 b1).f2.f1).length f9)).setCell ⟨b3,4,none⟩ (.slice g1 ((rd_T48 b0 b1).f2.f2).length g2)).setCell ⟨b3,5,none⟩ (.slice g3 ((rd_T48 b0 b1).f3).length g4)).setCell ⟨b3,6,none⟩ (.slice g7 ((rd_T48 b0 b1).f4).length g8)) w.heap.size (fun k_=>some k_≠(.slice d7 c1.length d8:Value).ownBlock∧some k_≠(.slice e1 d3.length e2:Value).ownBlock∧some k_≠(.slice d9 b8.length e0:Value).ownBlock∧some k_≠(.slice e3 b9.length e4:Value).ownBlock∧some k_≠(.slice e6 c0.length e7:Value).ownBlock∧k_≠b3) i8 h3):=⟨by refine Kd.R_q ?_;exact Kd.R_mono (Kd.R_far (p:=⟨b3,6,none⟩) (Kd.R_far (p:=⟨b3,5,none⟩) (Kd.R_far (p:=⟨b3,4,none⟩) (Kd.R_far (p:=⟨b3,3,none⟩) (Kd.R_far (p:=⟨b3,2,none⟩) (Kd.R_far (p:=⟨b3,1,none⟩) (Kd.R_far (p:=⟨b3,0,none⟩) (Kd.R_mono e5.out (fun k_ hk=>(⟨hk,hk.2⟩:_∧k_≠b3))) (fun _ hk=>hk.2) (.int .i64 ((rd_T48 b0 b1).f0))) (fun _ hk=>hk.2) (.int .i64 ((rd_T48 b0 b1).f1))) (fun _ hk=>hk.2) (.int .i64 ((rd_T48 b0 b1).f2.f0))) (fun _ hk=>hk.2) (.slice f8 ((rd_T48 b0 b1).f2.f1).length f9)) (fun _ hk=>hk.2) (.slice g1 ((rd_T48 b0 b1).f2.f2).length g2)) (fun _ hk=>hk.2) (.slice g3 ((rd_T48 b0 b1).f3).length g4)) (fun _ hk=>hk.2) (.slice g7 ((rd_T48 b0 b1).f4).length g8)) (fun _ hk=>⟨hk.1.1.1,⟨hk.1.1.2.1,⟨hk.1.1.2.2.1,⟨hk.1.1.2.2.2.1,⟨hk.1.1.2.2.2.2,hk.1.2⟩⟩⟩⟩⟩)⟩
       have p8:Aside0 ((((((((h0.setCell ⟨b3,0,none⟩ (.int .i64 ((rd_T48 b0 b1).f0))).setCell ⟨b3,1,none⟩ (.int .i64 ((rd_T48 b0 b1).f1))).setCell ⟨b3,2,none⟩ (.int .i64 ((rd_T48 b0 b1).f2.f0))).setCell ⟨b3,3,none⟩ (.slice f8 ((rd_T48 b0 b1).f2.f1).length f9)).setCell ⟨b3,4,none⟩ (.slice g1 ((rd_T48 b0 b1).f2.f2).length g2)).setCell ⟨b3,5,none⟩ (.slice g3 ((rd_T48 b0 b1).f3).length g4)).setCell ⟨b3,6,none⟩ (.slice g7 ((rd_T48 b0 b1).f4).length g8)).heap[b5]? = some (.cells #[.int .i64 d0,.int .i64 d1,.int .i64 d2,.int .i64 d4,.int .i64 d5,.slice d7 c1.length d8,.slice e1 d3.length e2,.string d6,.slice d9 b8.length e0,.slice e3 b9.length e4,.slice e6 c0.length e7,i8] 33 (0,0))):=⟨by refine blkQ ?_;refine blk_far ?_ j6.out _;refine blkQ ?_;refine blk_far ?_ j6.out _;refine blkQ ?_;refine blk_far ?_ j6.out _;refine blkQ ?_;refine blk_far ?_ j6.out _;refine blkQ ?_;refine blk_far ?_ j6.out _;refine blkQ ?_;refine blk_far ?_ j6.out _;refine blkQ ?_;refine blk_far ?_ j6.out _;refine blkQ ?_;exact b2.out⟩
       have p9:Aside0 ((((((((h0.setCell ⟨b3,0,none⟩ (.int .i64 ((rd_T48 b0 b1).f0))).setCell ⟨b3,1,none⟩ (.int .i64 ((rd_T48 b0 b1).f1))).setCell ⟨b3,2,none⟩ (.int .i64 ((rd_T48 b0 b1).f2.f0))).setCell ⟨b3,3,none⟩ (.slice f8 ((rd_T48 b0 b1).f2.f1).length f9)).setCell ⟨b3,4,none⟩ (.slice g1 ((rd_T48 b0 b1).f2.f2).length g2)).setCell ⟨b3,5,none⟩ (.slice g3 ((rd_T48 b0 b1).f3).length g4)).setCell ⟨b3,6,none⟩ (.slice g7 ((rd_T48 b0 b1).f4).length g8)).heap[b4]? = some (.cells #[.int .i64 0,.int .i64 0,.int .i64 0,.int .i64 0,.int .i64 0,.slice none 0 0,.slice none 0 0,.string (⟨#[]⟩:ByteArray),.slice none 0 0,.slice none 0 0,.slice none 0 0,.slice none 0 0] 33 (0,0))):=⟨by refine blkQ ?_;refine blk_far ?_ j9.out _;refine blkQ ?_;refine blk_far ?_ j9.out _;refine blkQ ?_;refine blk_far ?_ j9.out _;refine blkQ ?_;refine blk_far ?_ j9.out _;refine blkQ ?_;refine blk_far ?_ j9.out _;refine blkQ ?_;refine blk_far ?_ j9.out _;refine blkQ ?_;refine blk_far ?_ j9.out _;refine blkQ ?_;exact b7.out⟩
       have q0:Aside0 ((((((((h0.setCell ⟨b3,0,none⟩ (.int .i64 ((rd_T48 b0 b1).f0))).setCell ⟨b3,1,none⟩ (.int .i64 ((rd_T48 b0 b1).f1))).setCell ⟨b3,2,none⟩ (.int .i64 ((rd_T48 b0 b1).f2.f0))).setCell ⟨b3,3,none⟩ (.slice f8 ((rd_T48 b0 b1).f2.f1).length f9)).setCell ⟨b3,4,none⟩ (.slice g1 ((rd_T48 b0 b1).f2.f2).length g2)).setCell ⟨b3,5,none⟩ (.slice g3 ((rd_T48 b0 b1).f3).length g4)).setCell ⟨b3,6,none⟩ (.slice g7 ((rd_T48 b0 b1).f4).length g8)).heap[b3]? = some (.cells #[.int .i64 ((rd_T48 b0 b1).f0),.int .i64 ((rd_T48 b0 b1).f1),.int .i64 ((rd_T48 b0 b1).f2.f0),.slice f8 ((rd_T48 b0 b1).f2.f1).length f9,.slice g1 ((rd_T48 b0 b1).f2.f2).length g2,.slice g3 ((rd_T48 b0 b1).f3).length g4,.slice g7 ((rd_T48 b0 b1).f4).length g8] 48 (0,0))):=⟨by refine blkQ ?_;refine blk_put (cs:=#[.int .i64 ((rd_T48 b0 b1).f0),.int .i64 ((rd_T48 b0 b1).f1),.int .i64 ((rd_T48 b0 b1).f2.f0),.slice f8 ((rd_T48 b0 b1).f2.f1).length f9,.slice g1 ((rd_T48 b0 b1).f2.f2).length g2,.slice g3 ((rd_T48 b0 b1).f3).length g4,.slice none 0 0]) ?_ 6 _ rfl;refine blkQ ?_;refine blk_put (cs:=#[.int .i64 ((rd_T48 b0 b1).f0),.int .i64 ((rd_T48 b0 b1).f1),.int .i64 ((rd_T48 b0 b1).f2.f0),.slice f8 ((rd_T48 b0 b1).f2.f1).length f9,.slice g1 ((rd_T48 b0 b1).f2.f2).length g2,.slice none 0 0,.slice none 0 0]) ?_ 5 _ rfl;refine blkQ ?_;refine blk_put (cs:=#[.int .i64 ((rd_T48 b0 b1).f0),.int .i64 ((rd_T48 b0 b1).f1),.int .i64 ((rd_T48 b0 b1).f2.f0),.slice f8 ((rd_T48 b0 b1).f2.f1).length f9,.slice none 0 0,.slice none 0 0,.slice none 0 0]) ?_ 4 _ rfl;refine blkQ ?_;refine blk_put (cs:=#[.int .i64 ((rd_T48 b0 b1).f0),.int .i64 ((rd_T48 b0 b1).f1),.int .i64 ((rd_T48 b0 b1).f2.f0),.slice none 0 0,.slice none 0 0,.slice none 0 0,.slice none 0 0]) ?_ 3 _ rfl;refine blkQ ?_;refine blk_put (cs:=#[.int .i64 ((rd_T48 b0 b1).f0),.int .i64 ((rd_T48 b0 b1).f1),.int .i64 0,.slice none 0 0,.slice none 0 0,.slice none 0 0,.slice none 0 0]) ?_ 2 _ rfl;refine blkQ ?_;refine blk_put (cs:=#[.int .i64 ((rd_T48 b0 b1).f0),.int .i64 0,.int .i64 0,.slice none 0 0,.slice none 0 0,.slice none 0 0,.slice none 0 0]) ?_ 1 _ rfl;refine blkQ ?_;refine blk_put (cs:=#[.int .i64 0,.int .i64 0,.int .i64 0,.slice none 0 0,.slice none 0 0,.slice none 0 0,.slice none 0 0]) ?_ 0 _ rfl;refine blkQ ?_;exact b6.out⟩
       have q1:Aside0 (Below w.heap.size w (((((((h0.setCell ⟨b3,0,none⟩ (.int .i64 ((rd_T48 b0 b1).f0))).setCell ⟨b3,1,none⟩ (.int .i64 ((rd_T48 b0 b1).f1))).setCell ⟨b3,2,none⟩ (.int .i64 ((rd_T48 b0 b1).f2.f0))).setCell ⟨b3,3,none⟩ (.slice f8 ((rd_T48 b0 b1).f2.f1).length f9)).setCell ⟨b3,4,none⟩ (.slice g1 ((rd_T48 b0 b1).f2.f2).length g2)).setCell ⟨b3,5,none⟩ (.slice g3 ((rd_T48 b0 b1).f3).length g4)).setCell ⟨b3,6,none⟩ (.slice g7 ((rd_T48 b0 b1).f4).length g8))):=⟨by repeat (first|(with_reducible first|exact HB.out|apply below_alloc|apply pw_below_drewN|apply below_drew1|refine below_set ?_ m7.out|refine below_set ?_ m8.out|refine below_set ?_ x7.out)|exact HB.out)⟩
       (try clear e8)
       (try clear e9)
       (try clear f5)
       (try clear f6)
       (try clear f7)
       (try clear e5)
       (try clear b2)
       (try clear b7)
       (try clear b6)
       (try clear HB)
       generalize (((((((h0.setCell ⟨b3,0,none⟩ (.int .i64 ((rd_T48 b0 b1).f0))).setCell ⟨b3,1,none⟩ (.int .i64 ((rd_T48 b0 b1).f1))).setCell ⟨b3,2,none⟩ (.int .i64 ((rd_T48 b0 b1).f2.f0))).setCell ⟨b3,3,none⟩ (.slice f8 ((rd_T48 b0 b1).f2.f1).length f9)).setCell ⟨b3,4,none⟩ (.slice g1 ((rd_T48 b0 b1).f2.f2).length g2)).setCell ⟨b3,5,none⟩ (.slice g3 ((rd_T48 b0 b1).f3).length g4)).setCell ⟨b3,6,none⟩ (.slice g7 ((rd_T48 b0 b1).f4).length g8))=F6 at p2 p3 p4 p5 p6 p7 p8 p9 q0 q1 ⊢
       have e8:=p2
       have e9:=p3
       have f5:=p4
       have f6:=p5
       have f7:=p6
       have e5:=p7
       have b2:=p8
       have b7:=p9
       have b6:=q0
       have HB:=q1
       clear p2 p3 p4 p5 p6 p7 p8 p9 q0 q1
       refine ap10 (Kd.R_drew e8.out) (Kd.R_drew e9.out) (Kd.R_drew f5.out) (Kd.R_drew f6.out) (Kd.R_drew f7.out) (Kd.R_drew e5.out) (blk_drew b2.out) (blk_drew b7.out) (blk_drew b6.out) (below_drew1 HB.out) ?_
       clear e8 e9 f5 f6 f7 e5 b2 b7 b6 HB
       intro e8 e9 f5 f6 f7 e5 b2 b7 b6 HB
       refine start_ (n:=8) (S:=fun w'=>w'.cell? ⟨b5,0,none⟩=some (.int .i64 d0)∧w'.cell? ⟨b5,1,none⟩=some (.int .i64 d1)∧w'.cell? ⟨b5,2,none⟩=some (.int .i64 d2)∧w'.cell? ⟨b5,3,none⟩=some (.int .i64 d4)∧w'.cell? ⟨b5,4,none⟩=some (.int .i64 d5)∧w'.cell? ⟨b5,5,none⟩=some (.slice d7 c1.length d8)∧w'.cell? ⟨b5,6,none⟩=some (.slice e1 d3.length e2)∧w'.cell? ⟨b5,7,none⟩=some (.string d6)∧w'.cell? ⟨b5,8,none⟩=some (.slice d9 b8.length e0)∧w'.cell? ⟨b5,9,none⟩=some (.slice e3 b9.length e4)∧w'.cell? ⟨b5,10,none⟩=some (.slice e6 c0.length e7)∧w'.cell? ⟨b5,11,none⟩=some (i8)∧w'.cell? ⟨b3,0,none⟩=some (.int .i64 ((rd_T48 b0 b1).f0))∧w'.cell? ⟨b3,1,none⟩=some (.int .i64 ((rd_T48 b0 b1).f1))∧w'.cell? ⟨b3,2,none⟩=some (.int .i64 ((rd_T48 b0 b1).f2.f0))∧w'.cell? ⟨b3,3,none⟩=some (.slice f8 ((rd_T48 b0 b1).f2.f1).length f9)∧w'.cell? ⟨b3,4,none⟩=some (.slice g1 ((rd_T48 b0 b1).f2.f2).length g2)∧w'.cell? ⟨b3,5,none⟩=some (.slice g3 ((rd_T48 b0 b1).f3).length g4)∧w'.cell? ⟨b3,6,none⟩=some (.slice g7 ((rd_T48 b0 b1).f4).length g8)) (ds:=[7]) #[false,false,false,false,false,false,false,false] (by kernel_rfl) rfl rfl ⟨(blk_cell b2.out 0).trans rfl,(blk_cell b2.out 1).trans rfl,(blk_cell b2.out 2).trans rfl,(blk_cell b2.out 3).trans rfl,(blk_cell b2.out 4).trans rfl,(blk_cell b2.out 5).trans rfl,(blk_cell b2.out 6).trans rfl,(blk_cell b2.out 7).trans rfl,(blk_cell b2.out 8).trans rfl,(blk_cell b2.out 9).trans rfl,(blk_cell b2.out 10).trans rfl,(blk_cell b2.out 11).trans rfl,(blk_cell b6.out 0).trans rfl,(blk_cell b6.out 1).trans rfl,(blk_cell b6.out 2).trans rfl,(blk_cell b6.out 3).trans rfl,(blk_cell b6.out 4).trans rfl,(blk_cell b6.out 5).trans rfl,(blk_cell b6.out 6).trans rfl⟩ (fun hHeld=>?_);refine with_tabW nomination_fresh.tab7 nomination_fresh.bits7 (fun HT_ HW_=>?_)
       generalize F6.drew=L3 at e8 e9 f5 f6 f7 e5 b2 b7 b6 HB hHeld ⊢
       refine pure_ (i:=0) (N:=some 31) #[true,false,false,false,false,false,false,false] rfl rfl (any_of HT_.out (by kernel_rfl)) (fun _ _ _ h=>h) (Or.inl ⟨by rfl,tz4⟩) tz1 ?_
       refine take_ (i:=1) (N:=some 32) #[true,true,false,false,false,false,false,false] rfl rfl (take_ofW HT_.out HW_.out (by kernel_rfl)) (fun _ _ _ h=>h) (Or.inl ⟨by rfl,(by rintro w' ⟨s0,s1,s2,s3,s4,s5,s6,s7,s8,s9,F7,F8,F9,G0,G1,G2,G3,G4,G5⟩;go_simp;with_reducible rfl)⟩) hHeld tz1 ?_
       refine take_ (i:=2) (N:=some 33) #[true,true,true,false,false,false,false,false] rfl rfl (take_ofW HT_.out HW_.out (by kernel_rfl)) (fun _ _ _ h=>h) (Or.inl ⟨by rfl,(by rintro w' ⟨s0,s1,s2,s3,s4,s5,s6,s7,s8,s9,F7,F8,F9,G0,G1,G2,G3,G4,G5⟩;go_simp;with_reducible rfl)⟩) hHeld tz1 ?_
       refine one_ (i:=3) (N:=some 34) #[true,true,true,true,false,false,false,false] rfl rfl (one_of HT_.out (by kernel_rfl)) (by decide) (fun K hK=>?_)
       refine goes_ Try.func22 (by kernel_rfl) rfl #[.agg #[.int .i64 ((rd_T48 b0 b1).f0),.int .i64 ((rd_T48 b0 b1).f1),.int .i64 ((rd_T48 b0 b1).f2.f0),.slice f8 ((rd_T48 b0 b1).f2.f1).length f9,.slice g1 ((rd_T48 b0 b1).f2.f2).length g2,.slice g3 ((rd_T48 b0 b1).f3).length g4,.slice g7 ((rd_T48 b0 b1).f4).length g8]] (by rfl) rfl rfl tz0 ?_
       with_reducible refine (nomination_message.calls k1 ((rd_T48 b0 b1).f0) ((rd_T48 b0 b1).f1) ((rd_T48 b0 b1).f2.f0) _ _ ((rd_T48 b0 b1).f2.f1) _ _ ((rd_T48 b0 b1).f2.f2) _ _ ((rd_T48 b0 b1).f3) _ _ ((rd_T48 b0 b1).f4) l4 l5 l6 l7 l8 l9 m0 _ ?side1 ?side2 ?side3 ?side4 ?side5 ?side6 ?side7 ?side8 E4.out).mono ?_
       (case side1=>exact Kd.C_q (Kd.C_below E7.out HB.out))
       (case side2=>exact E8.out)
       (case side3=>exact Kd.C_q (Kd.C_below E9.out HB.out))
       (case side4=>exact F0.out)
       (case side5=>exact Kd.C_q (Kd.C_below F1.out HB.out))
       (case side6=>exact F2.out)
       (case side7=>exact Kd.C_q (Kd.C_below F3.out HB.out))
       (case side8=>exact F4.out)
       rintro e L4 ⟨L5,L6,L7,L8,rfl,g6,k3,m1,m2,hb⟩
       refine ⟨_,rfl,?_⟩
       refine ap14 (Kd.R_elder' (Kd.R_q e8.out) (Kd.R_base g6) hb) (Kd.R_mono (Kd.R_told (Kd.R_told (Kd.R_old (Kd.R_q e9.out) hb) (Kd.R_base g6)) (Kd.R_base k3)) (fun _ h_=>h_.1)) (Kd.R_mono (Kd.R_told (Kd.R_told (Kd.R_old (Kd.R_q f5.out) hb) (Kd.R_base m1)) (Kd.R_base m2)) (fun _ h_=>h_.1)) (Kd.R_mono (Kd.R_told (Kd.R_told (Kd.R_old (Kd.R_q f6.out) hb) (Kd.R_base m1)) (Kd.R_base m2)) (fun _ h_=>h_.1)) (Kd.R_mono (Kd.R_told (Kd.R_told (Kd.R_old (Kd.R_q f7.out) hb) (Kd.R_base m1)) (Kd.R_base m2)) (fun _ h_=>h_.1)) (Kd.R_mono (Kd.R_told (Kd.R_told (Kd.R_told (Kd.R_told (Kd.R_old (Kd.R_q e5.out) hb) (Kd.R_base g6)) (Kd.R_base k3)) (Kd.R_base m1)) (Kd.R_base m2)) (fun _ h_=>h_.1)) (Kd.R_lower (Kd.R_new' g6 (Kd.R_lt (Kd.R_q e8.out))) (below_size (belowP HB))) (Kd.R_lower (Kd.R_new' (Kd.R_new' k3 (Kd.R_lt (Kd.R_q e8.out))) (Kd.R_lt (Kd.R_q e9.out))) (below_size (belowP HB))) (Kd.R_lower (Kd.R_new' (Kd.R_new' (Kd.R_new' m1 (Kd.R_lt (Kd.R_q f5.out))) (Kd.R_lt (Kd.R_q f6.out))) (Kd.R_lt (Kd.R_q f7.out))) (below_size (belowP HB))) (Kd.R_lower (Kd.R_new' (Kd.R_new' (Kd.R_new' m2 (Kd.R_lt (Kd.R_q f5.out))) (Kd.R_lt (Kd.R_q f6.out))) (Kd.R_lt (Kd.R_q f7.out))) (below_size (belowP HB))) (blk_below (blkP b2) hb) (blk_below (blkP b7) hb) (blk_below (blkP b6) hb) (below_step (belowP HB) hb) ?_
       clear e8 e9 f5 f6 f7 e5 b2 b7 b6 HB
       intro e8 e9 f5 f6 f7 e5 q2 q3 q4 q5 b2 b7 b6 HB
       (try clear hb)
       (try clear hb2)
       (try clear hk)
       (try clear hi)
       (try clear g6)
       (try clear k3)
       (try clear m1)
       (try clear m2)
       obtain ⟨G6,G7,x9⟩:=Kd.R_slice q2.out
       (first|subst x9|(injection x9 with f1_ f2_ f3_;have f4_:=f1_.symm;have f5_:=f3_.symm;clear f1_ f2_ f3_;subst f4_;subst f5_))
       obtain ⟨G8,G9,z0⟩:=Kd.R_slice q3.out
       (first|subst z0|(injection z0 with f1_ f2_ f3_;have f4_:=f1_.symm;have f5_:=f3_.symm;clear f1_ f2_ f3_;subst f4_;subst f5_))
       obtain ⟨H0,H1,z1⟩:=Kd.R_slice q4.out
       (first|subst z1|(injection z1 with f1_ f2_ f3_;have f4_:=f1_.symm;have f5_:=f3_.symm;clear f1_ f2_ f3_;subst f4_;subst f5_))
       obtain ⟨H2,H3,z2⟩:=Kd.R_slice q5.out
       (first|subst z2|(injection z2 with f1_ f2_ f3_;have f4_:=f1_.symm;have f5_:=f3_.symm;clear f1_ f2_ f3_;subst f4_;subst f5_))
       refine hK.out _ _ ⟨(blk_cell b2.out 0).trans rfl,(blk_cell b2.out 1).trans rfl,(blk_cell b2.out 2).trans rfl,(blk_cell b2.out 3).trans rfl,(blk_cell b2.out 4).trans rfl,(blk_cell b2.out 5).trans rfl,(blk_cell b2.out 6).trans rfl,(blk_cell b2.out 7).trans rfl,(blk_cell b2.out 8).trans rfl,(blk_cell b2.out 9).trans rfl,(blk_cell b2.out 10).trans rfl,(blk_cell b2.out 11).trans rfl,(blk_cell b6.out 0).trans rfl,(blk_cell b6.out 1).trans rfl,(blk_cell b6.out 2).trans rfl,(blk_cell b6.out 3).trans rfl,(blk_cell b6.out 4).trans rfl,(blk_cell b6.out 5).trans rfl,(blk_cell b6.out 6).trans rfl⟩ (fun hHeld=>?_)
       clear hK K
       refine norm_ (a':=?_) ?_ ?_
       rotate_left
       ·show Act.put _ (some 34) _=_
        simp only [Act.put,List.setIfInBounds_toArray,List.set_cons_zero,List.set_cons_succ,i64_w,i32_w]
        rfl
       refine one_ (i:=4) (N:=some 35) #[true,true,true,true,true,false,false,false] rfl rfl (one_of HT_.out (by kernel_rfl)) (by decide) (fun K hK=>?_)
       refine value_ (w1:=?_) (v:=?_) (by rfl) rfl ?_ ?_
       rotate_left 2
       ·go_simp
        constructor
        ·rfl
        ·rfl
       refine hK.out _ _ ⟨(blk_cell (blk_alloc b2.out _) 0).trans rfl,(blk_cell (blk_alloc b2.out _) 1).trans rfl,(blk_cell (blk_alloc b2.out _) 2).trans rfl,(blk_cell (blk_alloc b2.out _) 3).trans rfl,(blk_cell (blk_alloc b2.out _) 4).trans rfl,(blk_cell (blk_alloc b2.out _) 5).trans rfl,(blk_cell (blk_alloc b2.out _) 6).trans rfl,(blk_cell (blk_alloc b2.out _) 7).trans rfl,(blk_cell (blk_alloc b2.out _) 8).trans rfl,(blk_cell (blk_alloc b2.out _) 9).trans rfl,(blk_cell (blk_alloc b2.out _) 10).trans rfl,(blk_cell (blk_alloc b2.out _) 11).trans rfl,(blk_cell (blk_alloc b6.out _) 0).trans rfl,(blk_cell (blk_alloc b6.out _) 1).trans rfl,(blk_cell (blk_alloc b6.out _) 2).trans rfl,(blk_cell (blk_alloc b6.out _) 3).trans rfl,(blk_cell (blk_alloc b6.out _) 4).trans rfl,(blk_cell (blk_alloc b6.out _) 5).trans rfl,(blk_cell (blk_alloc b6.out _) 6).trans rfl⟩ (fun hHeld=>?_)
       clear hK K
       refine norm_ (a':=?_) ?_ ?_
       rotate_left
       ·show Act.put _ (some 35) _=_
        simp only [Act.put,List.setIfInBounds_toArray,List.set_cons_zero,List.set_cons_succ,i64_w,i32_w]
        rfl
       refine one_ (i:=5) (N:=some 36) #[true,true,true,true,true,true,false,false] rfl rfl (one_of HT_.out (by kernel_rfl)) (by decide) (fun K hK=>?_)
       refine Kd.R_append_step k48 (w0:=w) w.heap.size (by rfl) (.tmp 32) (.tmp 35) 31 48 (.agg #[(.int .i64 0),(.int .i64 0),(.int .i64 0),(.slice none 0 0),(.slice none 0 0),(.slice none 0 0),(.slice none 0 0)]) 120 rfl Try.underlying31 info48 rfl (by decide) (by omega) i8 h3 (⟨l4,l5,(⟨l6,l7,l8⟩:S30),l9,m0⟩:S48) [.int .i64 l4,.int .i64 l5,.int .i64 l6,.slice G6 l7.length G7,.slice G8 l8.length G9,.slice H0 l9.length H1,.slice H2 m0.length H3] (fun k_=>some k_≠(.slice d7 c1.length d8:Value).ownBlock∧some k_≠(.slice e1 d3.length e2:Value).ownBlock∧some k_≠(.slice d9 b8.length e0:Value).ownBlock∧some k_≠(.slice e3 b9.length e4:Value).ownBlock∧some k_≠(.slice e6 c0.length e7:Value).ownBlock∧k_≠b3) (fun k_=>((fun k_=>some k_≠(.slice d7 c1.length d8:Value).ownBlock∧some k_≠(.slice e1 d3.length e2:Value).ownBlock∧some k_≠(.slice d9 b8.length e0:Value).ownBlock∧some k_≠(.slice e3 b9.length e4:Value).ownBlock∧some k_≠(.slice e6 c0.length e7:Value).ownBlock∧k_≠b3)) k_∧some k_≠(i8:Value).ownBlock) rfl rfl ?aP (fun _ hk=>hk) ?aF ?aO ?aB ?aS ?aL ?_
       (case aP=>exact k48_mkM _ _ _ (⟨l4,l5,(⟨l6,l7,l8⟩:S30),l9,m0⟩:S48) (Kd.R_mono (Kd.R_types (Kd.R_apart' (Kd.R_apart' (Kd.R_apart' (Kd.R_apart' (Kd.R_apart' (q2.out) (Kd.R_typed e9.out) (by decide)) (Kd.R_typed f5.out) (by decide)) (Kd.R_typed f6.out) (by decide)) (Kd.R_typed f7.out) (by decide)) (Kd.R_typed e5.out) (by decide)) b6.out (by decide)) (fun k_ hk=>⟨⟨hk.1.1.1.1.1.1.2,⟨hk.1.1.1.1.1.2,⟨hk.1.1.1.1.2,⟨hk.1.1.1.2,⟨hk.1.1.2,hk.2⟩⟩⟩⟩⟩,hk.1.2⟩)) (Kd.R_mono (Kd.R_types (Kd.R_apart' (Kd.R_apart' (Kd.R_apart' (Kd.R_apart' (q3.out) (Kd.R_typed f5.out) (by decide)) (Kd.R_typed f6.out) (by decide)) (Kd.R_typed f7.out) (by decide)) (Kd.R_typed e5.out) (by decide)) b6.out (by decide)) (fun k_ hk=>⟨⟨hk.1.1.1.1.1.1.2,⟨hk.1.1.1.1.1.2,⟨hk.1.1.1.1.2,⟨hk.1.1.1.2,⟨hk.1.1.2,hk.2⟩⟩⟩⟩⟩,hk.1.2⟩)) (Kd.R_mono (Kd.R_types (Kd.R_apart' (Kd.R_apart' (Kd.R_apart' (q4.out) (Kd.R_typed e8.out) (by decide)) (Kd.R_typed e9.out) (by decide)) (Kd.R_typed e5.out) (by decide)) b6.out (by decide)) (fun k_ hk=>⟨⟨hk.1.1.1.2,⟨hk.1.1.2,⟨hk.1.1.1.1.1.1.2,⟨hk.1.1.1.1.1.2,⟨hk.1.1.1.1.2,hk.2⟩⟩⟩⟩⟩,hk.1.2⟩)) (Kd.R_mono (Kd.R_types (Kd.R_apart' (Kd.R_apart' (Kd.R_apart' (q5.out) (Kd.R_typed e8.out) (by decide)) (Kd.R_typed e9.out) (by decide)) (Kd.R_typed e5.out) (by decide)) b6.out (by decide)) (fun k_ hk=>⟨⟨hk.1.1.1.2,⟨hk.1.1.2,⟨hk.1.1.1.1.1.1.2,⟨hk.1.1.1.1.1.2,⟨hk.1.1.1.1.2,hk.2⟩⟩⟩⟩⟩,hk.1.2⟩)))
       (case aB=>exact (belowP HB))
       (case aF=>exact (fun k_ hk=>⟨Kd.fresh' (Kd.R_lt (Kd.R_q e8.out)) k_ hk,Kd.fresh' (Kd.R_lt (Kd.R_q e9.out)) k_ hk,Kd.fresh' (Kd.R_lt (Kd.R_q f5.out)) k_ hk,Kd.fresh' (Kd.R_lt (Kd.R_q f6.out)) k_ hk,Kd.fresh' (Kd.R_lt (Kd.R_q f7.out)) k_ hk,Kd.freshB (blkP b6) k_ hk⟩))
       (case aO=>exact (by refine Kd.R_q ?_;exact Kd.R_mono e5.out (fun _ hk=>⟨hk.1.1.1.1.1,⟨hk.1.1.1.1.2.1,⟨hk.1.1.1.1.2.2.1,⟨hk.1.1.1.1.2.2.2.1,⟨hk.1.1.1.1.2.2.2.2.1,hk.1.1.1.1.2.2.2.2.2⟩⟩⟩⟩⟩)))
       (case aS=>exact (below_size (belowP HB)))
       (case aL=>have:=LMc30.out;omega)
       intro L9 H4 ho hb hg hat
       rw [← E5.out] at ho
       refine ap10 (Kd.R_over' (Kd.R_q e8.out) (Kd.R_typed (Kd.R_q e5.out)) (by decide) hg) (Kd.R_over' (Kd.R_q e9.out) (Kd.R_typed (Kd.R_q e5.out)) (by decide) hg) (Kd.R_over' (Kd.R_q f5.out) (Kd.R_typed (Kd.R_q e5.out)) (by decide) hg) (Kd.R_over' (Kd.R_q f6.out) (Kd.R_typed (Kd.R_q e5.out)) (by decide) hg) (Kd.R_over' (Kd.R_q f7.out) (Kd.R_typed (Kd.R_q e5.out)) (by decide) hg) (blk_grown (blkP b2) hg (Kd.R_ne e5.out b2.out (by decide))) (blk_grown (blkP b7) hg (Kd.R_ne e5.out b7.out (by decide))) (blk_grown (blkP b6) hg (Kd.R_away e5.out (fun _ hk=>by with_reducible first|exact hk.1.1.1.1.2.2.2.2.2|exact hk.1.1.1.1.1.2.2.2.2.2|exact hk.1.1.1.1.1.1.2.2.2.2.2|exact hk.1.1.1.1.1.1.1.2.2.2.2.2|exact hk.1.1.1.1.1.1.1.1.2.2.2.2.2))) (hb) (ho) ?_
       clear e8 e9 f5 f6 f7 b2 b7 b6 HB e5 q2 q3 q4 q5
       intro e8 e9 f5 f6 f7 b2 b7 b6 HB z3
       clear ho hb hg hat
       obtain ⟨k4,k5,z4⟩:=Kd.R_slice z3.out
       (first|subst z4|(injection z4 with f1_ f2_ f3_;have f4_:=f1_.symm;have f5_:=f3_.symm;clear f1_ f2_ f3_;subst f4_;subst f5_))
       refine hK.out _ _ ⟨(blk_cell b2.out 0).trans rfl,(blk_cell b2.out 1).trans rfl,(blk_cell b2.out 2).trans rfl,(blk_cell b2.out 3).trans rfl,(blk_cell b2.out 4).trans rfl,(blk_cell b2.out 5).trans rfl,(blk_cell b2.out 6).trans rfl,(blk_cell b2.out 7).trans rfl,(blk_cell b2.out 8).trans rfl,(blk_cell b2.out 9).trans rfl,(blk_cell b2.out 10).trans rfl,(blk_cell b2.out 11).trans rfl,(blk_cell b6.out 0).trans rfl,(blk_cell b6.out 1).trans rfl,(blk_cell b6.out 2).trans rfl,(blk_cell b6.out 3).trans rfl,(blk_cell b6.out 4).trans rfl,(blk_cell b6.out 5).trans rfl,(blk_cell b6.out 6).trans rfl⟩ (fun hHeld=>?_)
       clear hK K
       refine norm_ (a':=?_) ?_ ?_
       rotate_left
       ·show Act.put _ (some 36) _=_
        simp only [Act.put,List.setIfInBounds_toArray,List.set_cons_zero,List.set_cons_succ,i64_w,i32_w]
        rfl
       refine pure_ (i:=6) (N:=some 37) #[true,true,true,true,true,true,true,false] rfl rfl (any_of HT_.out (by kernel_rfl)) (fun _ _ _ h=>h) (Or.inl ⟨by rfl,tz4⟩) tz1 ?_
       refine last_ (i:=7) (N:=none) #[true,true,true,true,true,true,true,true] rfl rfl (one_of HT_.out (by kernel_rfl)) (by decide) (fun K hK=>?_)
       have M0:H4.cell? ⟨b5,11,none⟩=some (i8):=(blk_cell b2.out 11).trans rfl
       have hfs44:=blk_frozen b2.out 11
       have hns44_1:=h1.out
       have hns44_2:=x8.out
       have hms44_1:=j4.out
       have hms44_2:=j6.out
       refine skip_ (w1:=?_) (by rfl) rfl ?_ ?_
       rotate_left
       ·go_simp
        rfl
       refine hK.out _ _ ?_
       clear hK K
       refine done_ (done_of HT_.out (by kernel_rfl)) ?_
       try go_wp2
       go_roundg k1
       case measure=>have:=w3.out;omega
       case rel=>exact ⟨(wrap64 (b1 + 1)),(j5),(.slice k4 j5.length k5),tz3,H',⟨by have:=w3.out;omega⟩,⟨by refine Kd.R_q ?_;exact Kd.R_mono (Kd.R_far (p:=⟨b5,11,none⟩) (Kd.R_types e8.out b2.out (by decide)) (fun _ hk=>hk.2) (.slice k4 j5.length k5)) (fun _ hk=>trivial)⟩,⟨by refine Kd.R_q ?_;exact Kd.R_mono (Kd.R_far (p:=⟨b5,11,none⟩) (Kd.R_types e9.out b2.out (by decide)) (fun _ hk=>hk.2) (.slice k4 j5.length k5)) (fun _ hk=>hk.1.1.1)⟩,⟨by refine Kd.R_q ?_;exact Kd.R_mono (Kd.R_far (p:=⟨b5,11,none⟩) (Kd.R_types f5.out b2.out (by decide)) (fun _ hk=>hk.2) (.slice k4 j5.length k5)) (fun _ hk=>⟨hk.1.1.1.1,hk.1.1.1.2⟩)⟩,⟨by refine Kd.R_q ?_;exact Kd.R_mono (Kd.R_far (p:=⟨b5,11,none⟩) (Kd.R_types f6.out b2.out (by decide)) (fun _ hk=>hk.2) (.slice k4 j5.length k5)) (fun _ hk=>⟨hk.1.1.1.1,hk.1.1.1.2⟩)⟩,⟨by refine Kd.R_q ?_;exact Kd.R_mono (Kd.R_far (p:=⟨b5,11,none⟩) (Kd.R_types f7.out b2.out (by decide)) (fun _ hk=>hk.2) (.slice k4 j5.length k5)) (fun _ hk=>⟨hk.1.1.1.1,hk.1.1.1.2⟩)⟩,⟨by refine Kd.R_q ?_;exact Kd.R_mono (Kd.R_far (p:=⟨b5,11,none⟩) (Kd.R_types z3.out b2.out (by decide)) (fun _ hk=>hk.2) (.slice k4 j5.length k5)) (fun _ hk=>⟨hk.1.1,⟨hk.1.2.1,⟨hk.1.2.2.1,⟨hk.1.2.2.2.1,hk.1.2.2.2.2.1⟩⟩⟩⟩)⟩,⟨by refine blkQ ?_;refine blk_put (cs:=#[.int .i64 d0,.int .i64 d1,.int .i64 d2,.int .i64 d4,.int .i64 d5,.slice d7 c1.length d8,.slice e1 d3.length e2,.string d6,.slice d9 b8.length e0,.slice e3 b9.length e4,.slice e6 c0.length e7,i8]) ?_ 11 _ rfl;refine blkQ ?_;exact b2.out⟩,⟨by refine blkQ ?_;refine blk_far ?_ h1.out _;refine blkQ ?_;exact b7.out⟩,⟨by repeat (first|(with_reducible first|exact HB.out|apply below_alloc|apply pw_below_drewN|apply below_drew1|refine below_set ?_ m7.out|refine below_set ?_ m8.out|refine below_set ?_ x7.out)|exact HB.out)⟩⟩
      ·rw [if_neg n1] at H
       exact absurd H (by simp)
     ·rw [if_neg n0] at H
      exact absurd H (by simp)
    ·rw [if_neg m9] at H
     exact absurd H (by simp)
   ·rw [if_neg l3] at H
    have E3:decide (b1 < (b0.length:Int))=false:=decide_eq_false l3
    clear l3
    simp only [Option.some.injEq,Prod.mk.injEq] at H
    obtain ⟨rfl,rfl,rfl,rfl,rfl,rfl,rfl,rfl,rfl,rfl,rfl,rfl⟩:=H
    have M1:=j4.out
    have M2:=h1.out
    obtain ⟨M3,M4,M5,M6,M7,M8,M9,N0,N1,N2,N3,N4⟩:=cells12 b2.out
    obtain ⟨N5,N6,N7,N8,N9,O0,O1,O2,O3,O4,O5,O6⟩:=froz12 b2.out
    obtain ⟨O7,O8,O9,P0,P1,P2,P3,P4,P5,P6,P7,P8⟩:=cells12 b7.out
    obtain ⟨P9,Q0,Q1,Q2,Q3,Q4,Q5,Q6,Q7,Q8,Q9,R0⟩:=froz12 b7.out
    obtain ⟨k6,k7,H5⟩:=Kd.R_slice e5.out
    subst H5
    go_wp2
    refine bodyPost_ret (results_cell_row rfl _ _ b4 33 #[.int .i64 d0,.int .i64 d1,.int .i64 d2,.int .i64 d4,.int .i64 d5,.slice d7 c1.length d8,.slice e1 d3.length e2,.string d6,.slice d9 b8.length e0,.slice e3 b9.length e4,.slice e6 c0.length e7,.slice k6 h3.length k7] (0,0) _ rfl (by refine blkQ ?_;refine blk_put (cs:=#[.int .i64 d0,.int .i64 d1,.int .i64 d2,.int .i64 d4,.int .i64 d5,.slice d7 c1.length d8,.slice e1 d3.length e2,.string d6,.slice d9 b8.length e0,.slice e3 b9.length e4,.slice e6 c0.length e7,.slice none 0 0]) ?_ 11 _ rfl;refine blkQ ?_;refine blk_put (cs:=#[.int .i64 d0,.int .i64 d1,.int .i64 d2,.int .i64 d4,.int .i64 d5,.slice d7 c1.length d8,.slice e1 d3.length e2,.string d6,.slice d9 b8.length e0,.slice e3 b9.length e4,.slice none 0 0,.slice none 0 0]) ?_ 10 _ rfl;refine blkQ ?_;refine blk_put (cs:=#[.int .i64 d0,.int .i64 d1,.int .i64 d2,.int .i64 d4,.int .i64 d5,.slice d7 c1.length d8,.slice e1 d3.length e2,.string d6,.slice d9 b8.length e0,.slice none 0 0,.slice none 0 0,.slice none 0 0]) ?_ 9 _ rfl;refine blkQ ?_;refine blk_put (cs:=#[.int .i64 d0,.int .i64 d1,.int .i64 d2,.int .i64 d4,.int .i64 d5,.slice d7 c1.length d8,.slice e1 d3.length e2,.string d6,.slice none 0 0,.slice none 0 0,.slice none 0 0,.slice none 0 0]) ?_ 8 _ rfl;refine blkQ ?_;refine blk_put (cs:=#[.int .i64 d0,.int .i64 d1,.int .i64 d2,.int .i64 d4,.int .i64 d5,.slice d7 c1.length d8,.slice e1 d3.length e2,.string (⟨#[]⟩:ByteArray),.slice none 0 0,.slice none 0 0,.slice none 0 0,.slice none 0 0]) ?_ 7 _ rfl;refine blkQ ?_;refine blk_put (cs:=#[.int .i64 d0,.int .i64 d1,.int .i64 d2,.int .i64 d4,.int .i64 d5,.slice d7 c1.length d8,.slice none 0 0,.string (⟨#[]⟩:ByteArray),.slice none 0 0,.slice none 0 0,.slice none 0 0,.slice none 0 0]) ?_ 6 _ rfl;refine blkQ ?_;refine blk_put (cs:=#[.int .i64 d0,.int .i64 d1,.int .i64 d2,.int .i64 d4,.int .i64 d5,.slice none 0 0,.slice none 0 0,.string (⟨#[]⟩:ByteArray),.slice none 0 0,.slice none 0 0,.slice none 0 0,.slice none 0 0]) ?_ 5 _ rfl;refine blkQ ?_;refine blk_put (cs:=#[.int .i64 d0,.int .i64 d1,.int .i64 d2,.int .i64 d4,.int .i64 0,.slice none 0 0,.slice none 0 0,.string (⟨#[]⟩:ByteArray),.slice none 0 0,.slice none 0 0,.slice none 0 0,.slice none 0 0]) ?_ 4 _ rfl;refine blkQ ?_;refine blk_put (cs:=#[.int .i64 d0,.int .i64 d1,.int .i64 d2,.int .i64 0,.int .i64 0,.slice none 0 0,.slice none 0 0,.string (⟨#[]⟩:ByteArray),.slice none 0 0,.slice none 0 0,.slice none 0 0,.slice none 0 0]) ?_ 3 _ rfl;refine blkQ ?_;refine blk_put (cs:=#[.int .i64 d0,.int .i64 d1,.int .i64 0,.int .i64 0,.int .i64 0,.slice none 0 0,.slice none 0 0,.string (⟨#[]⟩:ByteArray),.slice none 0 0,.slice none 0 0,.slice none 0 0,.slice none 0 0]) ?_ 2 _ rfl;refine blkQ ?_;refine blk_put (cs:=#[.int .i64 d0,.int .i64 0,.int .i64 0,.int .i64 0,.int .i64 0,.slice none 0 0,.slice none 0 0,.string (⟨#[]⟩:ByteArray),.slice none 0 0,.slice none 0 0,.slice none 0 0,.slice none 0 0]) ?_ 1 _ rfl;refine blkQ ?_;refine blk_put (cs:=#[.int .i64 0,.int .i64 0,.int .i64 0,.int .i64 0,.int .i64 0,.slice none 0 0,.slice none 0 0,.string (⟨#[]⟩:ByteArray),.slice none 0 0,.slice none 0 0,.slice none 0 0,.slice none 0 0]) ?_ 0 _ rfl;refine blkQ ?_;exact b7.out) Try.underlying33 rfl (by kernel_rfl)) rfl ?_
    exact ⟨_,_,_,_,_,_,rE,by refine Kd.R_q ?_;exact Kd.R_mono (Kd.R_far (p:=⟨b4,11,none⟩) (Kd.R_far (p:=⟨b4,10,none⟩) (Kd.R_far (p:=⟨b4,9,none⟩) (Kd.R_far (p:=⟨b4,8,none⟩) (Kd.R_far (p:=⟨b4,7,none⟩) (Kd.R_far (p:=⟨b4,6,none⟩) (Kd.R_far (p:=⟨b4,5,none⟩) (Kd.R_far (p:=⟨b4,4,none⟩) (Kd.R_far (p:=⟨b4,3,none⟩) (Kd.R_far (p:=⟨b4,2,none⟩) (Kd.R_far (p:=⟨b4,1,none⟩) (Kd.R_far (p:=⟨b4,0,none⟩) (Kd.R_types e8.out b7.out (by decide)) (fun _ hk=>hk.2) (.int .i64 d0)) (fun _ hk=>hk.2) (.int .i64 d1)) (fun _ hk=>hk.2) (.int .i64 d2)) (fun _ hk=>hk.2) (.int .i64 d4)) (fun _ hk=>hk.2) (.int .i64 d5)) (fun _ hk=>hk.2) (.slice d7 c1.length d8)) (fun _ hk=>hk.2) (.slice e1 d3.length e2)) (fun _ hk=>hk.2) (.string d6)) (fun _ hk=>hk.2) (.slice d9 b8.length e0)) (fun _ hk=>hk.2) (.slice e3 b9.length e4)) (fun _ hk=>hk.2) (.slice e6 c0.length e7)) (fun _ hk=>hk.2) (.slice k6 h3.length k7)) (fun _ hk=>trivial),by refine Kd.R_q ?_;exact Kd.R_mono (Kd.R_far (p:=⟨b4,11,none⟩) (Kd.R_far (p:=⟨b4,10,none⟩) (Kd.R_far (p:=⟨b4,9,none⟩) (Kd.R_far (p:=⟨b4,8,none⟩) (Kd.R_far (p:=⟨b4,7,none⟩) (Kd.R_far (p:=⟨b4,6,none⟩) (Kd.R_far (p:=⟨b4,5,none⟩) (Kd.R_far (p:=⟨b4,4,none⟩) (Kd.R_far (p:=⟨b4,3,none⟩) (Kd.R_far (p:=⟨b4,2,none⟩) (Kd.R_far (p:=⟨b4,1,none⟩) (Kd.R_far (p:=⟨b4,0,none⟩) (Kd.R_types e9.out b7.out (by decide)) (fun _ hk=>hk.2) (.int .i64 d0)) (fun _ hk=>hk.2) (.int .i64 d1)) (fun _ hk=>hk.2) (.int .i64 d2)) (fun _ hk=>hk.2) (.int .i64 d4)) (fun _ hk=>hk.2) (.int .i64 d5)) (fun _ hk=>hk.2) (.slice d7 c1.length d8)) (fun _ hk=>hk.2) (.slice e1 d3.length e2)) (fun _ hk=>hk.2) (.string d6)) (fun _ hk=>hk.2) (.slice d9 b8.length e0)) (fun _ hk=>hk.2) (.slice e3 b9.length e4)) (fun _ hk=>hk.2) (.slice e6 c0.length e7)) (fun _ hk=>hk.2) (.slice k6 h3.length k7)) (fun _ hk=>hk.1),by refine Kd.R_q ?_;exact Kd.R_mono (Kd.R_far (p:=⟨b4,11,none⟩) (Kd.R_far (p:=⟨b4,10,none⟩) (Kd.R_far (p:=⟨b4,9,none⟩) (Kd.R_far (p:=⟨b4,8,none⟩) (Kd.R_far (p:=⟨b4,7,none⟩) (Kd.R_far (p:=⟨b4,6,none⟩) (Kd.R_far (p:=⟨b4,5,none⟩) (Kd.R_far (p:=⟨b4,4,none⟩) (Kd.R_far (p:=⟨b4,3,none⟩) (Kd.R_far (p:=⟨b4,2,none⟩) (Kd.R_far (p:=⟨b4,1,none⟩) (Kd.R_far (p:=⟨b4,0,none⟩) (Kd.R_types f5.out b7.out (by decide)) (fun _ hk=>hk.2) (.int .i64 d0)) (fun _ hk=>hk.2) (.int .i64 d1)) (fun _ hk=>hk.2) (.int .i64 d2)) (fun _ hk=>hk.2) (.int .i64 d4)) (fun _ hk=>hk.2) (.int .i64 d5)) (fun _ hk=>hk.2) (.slice d7 c1.length d8)) (fun _ hk=>hk.2) (.slice e1 d3.length e2)) (fun _ hk=>hk.2) (.string d6)) (fun _ hk=>hk.2) (.slice d9 b8.length e0)) (fun _ hk=>hk.2) (.slice e3 b9.length e4)) (fun _ hk=>hk.2) (.slice e6 c0.length e7)) (fun _ hk=>hk.2) (.slice k6 h3.length k7)) (fun _ hk=>⟨hk.1.1,hk.1.2⟩),by refine Kd.R_q ?_;exact Kd.R_mono (Kd.R_far (p:=⟨b4,11,none⟩) (Kd.R_far (p:=⟨b4,10,none⟩) (Kd.R_far (p:=⟨b4,9,none⟩) (Kd.R_far (p:=⟨b4,8,none⟩) (Kd.R_far (p:=⟨b4,7,none⟩) (Kd.R_far (p:=⟨b4,6,none⟩) (Kd.R_far (p:=⟨b4,5,none⟩) (Kd.R_far (p:=⟨b4,4,none⟩) (Kd.R_far (p:=⟨b4,3,none⟩) (Kd.R_far (p:=⟨b4,2,none⟩) (Kd.R_far (p:=⟨b4,1,none⟩) (Kd.R_far (p:=⟨b4,0,none⟩) (Kd.R_types f6.out b7.out (by decide)) (fun _ hk=>hk.2) (.int .i64 d0)) (fun _ hk=>hk.2) (.int .i64 d1)) (fun _ hk=>hk.2) (.int .i64 d2)) (fun _ hk=>hk.2) (.int .i64 d4)) (fun _ hk=>hk.2) (.int .i64 d5)) (fun _ hk=>hk.2) (.slice d7 c1.length d8)) (fun _ hk=>hk.2) (.slice e1 d3.length e2)) (fun _ hk=>hk.2) (.string d6)) (fun _ hk=>hk.2) (.slice d9 b8.length e0)) (fun _ hk=>hk.2) (.slice e3 b9.length e4)) (fun _ hk=>hk.2) (.slice e6 c0.length e7)) (fun _ hk=>hk.2) (.slice k6 h3.length k7)) (fun _ hk=>⟨hk.1.1,hk.1.2⟩),by refine Kd.R_q ?_;exact Kd.R_mono (Kd.R_far (p:=⟨b4,11,none⟩) (Kd.R_far (p:=⟨b4,10,none⟩) (Kd.R_far (p:=⟨b4,9,none⟩) (Kd.R_far (p:=⟨b4,8,none⟩) (Kd.R_far (p:=⟨b4,7,none⟩) (Kd.R_far (p:=⟨b4,6,none⟩) (Kd.R_far (p:=⟨b4,5,none⟩) (Kd.R_far (p:=⟨b4,4,none⟩) (Kd.R_far (p:=⟨b4,3,none⟩) (Kd.R_far (p:=⟨b4,2,none⟩) (Kd.R_far (p:=⟨b4,1,none⟩) (Kd.R_far (p:=⟨b4,0,none⟩) (Kd.R_types f7.out b7.out (by decide)) (fun _ hk=>hk.2) (.int .i64 d0)) (fun _ hk=>hk.2) (.int .i64 d1)) (fun _ hk=>hk.2) (.int .i64 d2)) (fun _ hk=>hk.2) (.int .i64 d4)) (fun _ hk=>hk.2) (.int .i64 d5)) (fun _ hk=>hk.2) (.slice d7 c1.length d8)) (fun _ hk=>hk.2) (.slice e1 d3.length e2)) (fun _ hk=>hk.2) (.string d6)) (fun _ hk=>hk.2) (.slice d9 b8.length e0)) (fun _ hk=>hk.2) (.slice e3 b9.length e4)) (fun _ hk=>hk.2) (.slice e6 c0.length e7)) (fun _ hk=>hk.2) (.slice k6 h3.length k7)) (fun _ hk=>⟨hk.1.1,hk.1.2⟩),by refine Kd.R_q ?_;exact Kd.R_mono (Kd.R_far (p:=⟨b4,11,none⟩) (Kd.R_far (p:=⟨b4,10,none⟩) (Kd.R_far (p:=⟨b4,9,none⟩) (Kd.R_far (p:=⟨b4,8,none⟩) (Kd.R_far (p:=⟨b4,7,none⟩) (Kd.R_far (p:=⟨b4,6,none⟩) (Kd.R_far (p:=⟨b4,5,none⟩) (Kd.R_far (p:=⟨b4,4,none⟩) (Kd.R_far (p:=⟨b4,3,none⟩) (Kd.R_far (p:=⟨b4,2,none⟩) (Kd.R_far (p:=⟨b4,1,none⟩) (Kd.R_far (p:=⟨b4,0,none⟩) (Kd.R_types e5.out b7.out (by decide)) (fun _ hk=>hk.2) (.int .i64 d0)) (fun _ hk=>hk.2) (.int .i64 d1)) (fun _ hk=>hk.2) (.int .i64 d2)) (fun _ hk=>hk.2) (.int .i64 d4)) (fun _ hk=>hk.2) (.int .i64 d5)) (fun _ hk=>hk.2) (.slice d7 c1.length d8)) (fun _ hk=>hk.2) (.slice e1 d3.length e2)) (fun _ hk=>hk.2) (.string d6)) (fun _ hk=>hk.2) (.slice d9 b8.length e0)) (fun _ hk=>hk.2) (.slice e3 b9.length e4)) (fun _ hk=>hk.2) (.slice e6 c0.length e7)) (fun _ hk=>hk.2) (.slice k6 h3.length k7)) (fun _ hk=>⟨hk.1.1,⟨hk.1.2.1,⟨hk.1.2.2.1,⟨hk.1.2.2.2.1,hk.1.2.2.2.2⟩⟩⟩⟩),by repeat (first|(with_reducible first|exact HB.out|apply below_alloc|apply pw_below_drewN|apply below_drew1|refine below_set ?_ m7.out|refine below_set ?_ m8.out)|exact HB.out)⟩
def nomination_node.f (a0:Int):Option (Bool):=if a0≥0 then (some (decide (a0 < 10))) else (some false)
set_option maxHeartbeats 8000000 in
set_option maxRecDepth 100000 in
theorem nomination_node.calls (a0:Int) (r:Bool) (w:World) (h:nomination_node.f a0=some r) :
  Calls Try.prog 10 #[.int .i64 a0] w fun e w'=>e = .returned (.bool r)∧Drawn0 w w':=by
 have H:(if a0≥0 then (some (decide (a0 < 10))) else (some false))=some r:=h
 clear h
 by_cases c2:a0≥0
 ·rw [if_pos c2] at H
  have a1:decide (0≤a0)=true:=decide_eq_true c2
  clear c2
  obtain rfl:=Option.some.inj H
  go_enter Try.func10,Try.ntmps10
  go_wp2
  go_ret
  exact ⟨by first|rfl|(simp;done)|(simp [*];done),by repeat (first|exact Drawn0.refl _|apply Drawn0.step)⟩
 ·rw [if_neg c2] at H
  have a1:decide (0≤a0)=false:=decide_eq_false c2
  clear c2
  obtain rfl:=Option.some.inj H
  go_enter Try.func10,Try.ntmps10
  go_wp2
  go_ret
  exact ⟨by first|rfl|(simp;done)|(simp [*];done),by repeat (first|exact Drawn0.refl _|apply Drawn0.step)⟩
def api_Nomination.f (l0:List (S48)):Option ((List (S48))):=(some (([]:List (S48)):List (S48))).bind fun a0=>(if a0.length + l0.length < 1172812402961 then (some (a0 ++ l0)) else (none))
set_option maxHeartbeats 8000000 in
set_option maxRecDepth 100000 in
theorem api_Nomination.calls0 (P0_:Nat→Prop) (a5:Addr) (c0:Nat) (l0:List (S48)) (r:List (S48)) (w:World) (a4:Kd.V k48 48 w w.heap.size (fun k_=>P0_ k_) (.slice (some a5) l0.length c0) l0) (h:api_Nomination.f l0=some r) :
  Calls Try.prog 27 #[.slice (some a5) l0.length c0] w fun e w'=>∃ a3:Value,e = .returned (a3)∧Kd.N k48 48 w' w.heap.size (fun k_=>(P0_ k_∨w.heap.size≤k_)) a3 r∧Below w.heap.size w w':=by
 have q_:∀ (w:World) (a:Option Addr) (n c n' c':Nat),(binOp .eql 31 (.slice a n c) (.slice none n' c')).run Try.prog w = .ok (.bool a.isNone) w:=fun w a n c n' c'=>Lib.run_eql_slice_nil w _ _ a n c n' c' Try.underlying31
 have a1:=Aside0.mk (show Kd.V k48 48 w w.heap.size (fun k_=>(P0_ k_∨w.heap.size≤k_)) (.slice (some a5) l0.length c0) l0 from Kd.V_mono a4 (fun k_ hk=>.inl hk))
 have HB:=Aside0.mk (Below.refl w.heap.size w)
 have H:((some (([]:List (S48)):List (S48))).bind fun a0=>(if a0.length + l0.length < 1172812402961 then (some (a0 ++ l0)) else (none)))=some r:=h
 clear h
 obtain ⟨a0,a6⟩:∃ y_:List (S48),y_=(([]:List (S48))):=⟨_,rfl⟩
 replace H:(if a0.length + l0.length < 1172812402961 then (some (a0 ++ l0)) else (none))=some r:=rH a6 H
 have a9:=Aside0.mk a6
 clear a6
 by_cases c2:a0.length + l0.length < 1172812402961
 ·rw [if_pos c2] at H
  have LMc2:=Aside0.mk c2
  clear c2
  obtain ⟨b1,a7⟩:∃ y_:List (S48),y_=(a0 ++ l0):=⟨_,rfl⟩
  replace H:(some b1)=some r:=rH a7 H
  have b2:=Aside0.mk a7
  clear a7
  obtain rfl:=Option.some.inj H
  go_enter Try.func27,Try.ntmps27
  go_wp2_with (first|((with_reducible refine gate_dst (N:=5) rfl ?_);refine Kd.N_lit k48 _ 48 ?hg (N':=5) ?hd (xs:=([]:List (S48))) (inner:=[]) (ok:=(fun k_=>(P0_ k_∨w.heap.size≤k_))) (okp:=(fun k_=>(P0_ k_∨w.heap.size≤k_))) ?hr ?hp (fun _ hk=>hk) ((show ∀ k_,w.heap.size≤k_→(fun k_=>(P0_ k_∨w.heap.size≤k_)) k_ from fun k_ hk=>(.inr (Nat.le_trans (below_size (belowP HB)) hk))) _ (Nat.le_refl _)) (Below.refl _ _) (Nat.le_refl _) (by simp) ?_;(case hd=>rfl);(case hg=>rfl);(case hr=>first|(go_simp;done)|(go_simp;rfl));(case hp=>exact (Reps.none _ _));intro a8 w3 a2 hb hg_ hnew_;clear hg_ hnew_;(first|rw [← a9.out] at a2|(simp only [Int.reduceToNat] at a2;rw [← a9.out] at a2));refine ap3 (Kd.V_elder' (Kd.V_q a1.out) (Kd.N_base a2) hb) (Kd.N_lower a2 (below_size (belowP HB))) (below_step (belowP HB) hb) ?_;clear a1 HB;intro a1 b0 HB;clear hb a2)|((with_reducible refine gate_builtin (b:=.append) (xs:=#[.tmp 5,.tmp 6]) rfl ?_);at_builtin;refine Kd.N_append_rows k48 (w0:=w) w.heap.size rfl (.tmp 5) (.tmp 6) 31 48 (.agg #[(.int .i64 0),(.int .i64 0),(.int .i64 0),(.slice none 0 0),(.slice none 0 0),(.slice none 0 0),(.slice none 0 0)]) 120 rfl Try.underlying31 info48 rfl (by decide) (by omega) a8 a0 l0 _ _ _ (fun k_=>(P0_ k_∨w.heap.size≤k_)) (fun k_=>((fun k_=>(P0_ k_∨w.heap.size≤k_))) k_∧some k_≠(a8:Value).ownBlock) rfl rfl ?aO ?aR (fun _ hk=>hk) ?aF ?aB ?aS ?aL ?_;(case aR=>exact (by skip;exact Kd.V_F (Kd.V_mono (ok':=(fun k_=>((fun k_=>(P0_ k_∨w.heap.size≤k_))) k_∧some k_≠(a8:Value).ownBlock)) (a1.out) (fun k_ hk=>⟨hk.1,hk.2⟩))));(case aB=>exact (belowP HB));(case aF=>exact (fun k_ hk=>(.inr (Nat.le_trans (below_size (belowP HB)) hk))));(case aO=>exact (Kd.N_q b0.out));(case aS=>exact (below_size (belowP HB)));(case aL=>have:=LMc2.out;omega);intro b4 w5 ho hb hg hat;rw [← b2.out] at ho;refine ap3 (Kd.V_afterv (ok:=(fun k_=>(P0_ k_∨w.heap.size≤k_))) (Kd.V_q a1.out) hg hat) (hb) (ho) ?_;clear a1 HB b0;intro a1 HB b3;clear ho hb hg hat))
  go_ret
  exact ⟨_,rE,by refine Kd.N_q ?_;exact b3.out,by repeat (first|(with_reducible first|exact HB.out|apply below_alloc|apply pw_below_drewN|apply below_drew1)|exact HB.out)⟩
 ·rw [if_neg c2] at H
  exact absurd H (by simp)
set_option maxHeartbeats 8000000 in
set_option maxRecDepth 100000 in
theorem api_Nomination.calls (P0_:Nat→Prop) (A0:Option Addr) (c0:Nat) (l0:List (S48)) (r:List (S48)) (w:World) (a4:Kd.V k48 48 w w.heap.size (fun k_=>P0_ k_) (.slice A0 l0.length c0) l0) (h:api_Nomination.f l0=some r) :
  Calls Try.prog 27 #[.slice A0 l0.length c0] w fun e w'=>∃ a3:Value,e = .returned (a3)∧Kd.N k48 48 w' w.heap.size (fun k_=>(P0_ k_∨w.heap.size≤k_)) a3 r∧Below w.heap.size w w':=by
 cases A0 with
 | some ad=>exact api_Nomination.calls0 P0_ ad c0 l0 r w a4 h
 | none=>
  have hl:l0 = []:=by
   rcases Nat.eq_zero_or_pos l0.length with h0|h0
   ·exact List.eq_nil_of_length_eq_zero h0
   ·obtain ⟨ad,e_,_⟩:=((Kd.V_reads' a4).2.2).2.2 h0
    cases e_
  subst hl
  obtain rfl:r = []:=by
   simp [api_Nomination.f] at h
   first|exact h|exact h.symm
  have q_:∀ (w:World) (a:Option Addr) (n c n' c':Nat),(binOp .eql 31 (.slice a n c) (.slice none n' c')).run Try.prog w = .ok (.bool a.isNone) w:=fun w a n c n' c'=>Lib.run_eql_slice_nil w _ _ a n c n' c' Try.underlying31
  have hB:=Below.refl w.heap.size w
  clear h
  go_enter Try.func27,Try.ntmps27
  go_wp2
  go_ret
  exact ⟨_,rfl,Kd.N_nil _ _ _ _ _,hB⟩
def nodeset_below.f (a0:Int) (a1:Int):Option (Bool):=if a0≥0 then (if 0≤a1 then (some (decide (a0 < (shl .i64 1 a1)))) else (none)) else (some false)
set_option maxHeartbeats 8000000 in
set_option maxRecDepth 100000 in
theorem nodeset_below.calls (a0:Int) (a1:Int) (r:Bool) (w:World) (h:nodeset_below.f a0 a1=some r) :
  Calls Try.prog 68 #[.int .i64 a0,.int .i64 a1] w fun e w'=>e = .returned (.bool r)∧Drawn0 w w':=by
 have H:(if a0≥0 then (if 0≤a1 then (some (decide (a0 < (shl .i64 1 a1)))) else (none)) else (some false))=some r:=h
 clear h
 by_cases c3:a0≥0
 ·rw [if_pos c3] at H
  have a2:decide (0≤a0)=true:=decide_eq_true c3
  clear c3
  by_cases c4:0≤a1
  ·rw [if_pos c4] at H
   have a3:=eq_true c4
   have a4:decide (0≤a1)=true:=decide_eq_true c4
   clear c4
   obtain ⟨ji5,hji5⟩:∃ j_:Int,(shl .i64 1 a1)=j_:=⟨_,rfl⟩
   replace H:(some (decide (a0 < (ji5))))=some r:=by first|(rw [hji5] at H;exact H)|(simp only [hji5] at H ⊢;exact H)
   have hji5_:(IntKind.i64.wrap (1 * 2 ^ min a1.toNat 64))=ji5:=hji5
   have hji5z:a1≤64→(IntKind.i64.wrap (1 * 2 ^ a1.toNat))=ji5:=shl_small hji5
   have hji5u:(IntKind.i64.wrap (2 ^ min a1.toNat 64))=ji5:=by have h_:=hji5_;rw [Int.one_mul] at h_;exact h_
   have hji5v:a1≤64→(IntKind.i64.wrap (2 ^ a1.toNat))=ji5:=fun hle_=>by have h_:=hji5z hle_;rw [Int.one_mul] at h_;exact h_
   have hji5y:(wrap64 (1 * 2 ^ min a1.toNat 64))=ji5:=(i64_w _).symm.trans hji5_
   have hji5x:a1≤64→(wrap64 (1 * 2 ^ a1.toNat))=ji5:=fun h_=>(i64_w _).symm.trans (hji5z h_)
   obtain rfl:=Option.some.inj H
   go_enter Try.func68,Try.ntmps68
   go_wp2
   go_ret
   exact ⟨by first|rfl|(simp;done)|(simp only [← hji5] <;> (first|rfl|simp))|(simp [*];done),by repeat (first|exact Drawn0.refl _|apply Drawn0.step)⟩
  ·rw [if_neg c4] at H
   exact absurd H (by simp)
 ·rw [if_neg c3] at H
  have a2:decide (0≤a0)=false:=decide_eq_false c3
  clear c3
  obtain rfl:=Option.some.inj H
  go_enter Try.func68,Try.ntmps68
  go_wp2
  go_ret
  exact ⟨by first|rfl|(simp;done)|(simp [*];done),by repeat (first|exact Drawn0.refl _|apply Drawn0.step)⟩
def nodeset_Valid.f (a0:Int):Option (Bool):=(nodeset_below.f a0 10).bind fun a1=>(some a1)
set_option maxHeartbeats 8000000 in
set_option maxRecDepth 100000 in
theorem nodeset_Valid.calls (a0:Int) (r:Bool) (w:World) (h:nodeset_Valid.f a0=some r) :
  Calls Try.prog 57 #[.int .i64 a0] w fun e w'=>e = .returned (.bool r)∧Drawn0 w w':=by
 have H:((nodeset_below.f a0 10).bind fun a1=>(some a1))=some r:=h
 clear h
 replace H:=Option.bind_eq_some_iff.mp H
 obtain ⟨a1,a2,H⟩:=H
 replace H:(some a1)=some r:=H
 have A2:=Aside0.mk a2
 clear a2
 obtain rfl:=Option.some.inj H
 go_enter Try.func57,Try.ntmps57
 go_wp2_with (first|((with_reducible refine gate_callee (f:=68) rfl ?_);refine goesL_ (some 4) rfl rfl Try.func68 (by kernel_rfl) rfl #[.int .i64 a0,.int .i64 10] rfl tz0 ?_;(with_reducible refine (nodeset_below.calls a0 10 a1 _ A2.out).mono ?_);rintro e w' ⟨rfl,⟨nd,rfl⟩⟩;refine ⟨_,rfl,?_⟩))
 go_ret
 exact ⟨by first|rfl|(simp;done)|(simp [*];done),by repeat (first|exact Drawn0.refl _|apply Drawn0.step)⟩
def nodeset_Has.f (a0:Int) (a1:Int):Option (Bool):=(nodeset_Valid.f a0).bind fun a2=>(if a2=true then (if a1≥0 then (if a1 < 10 then (if 0≤a1 then (some ((Go.bits .and .i64 a0 (shl .i64 1 a1)) != 0)) else (none)) else (some false)) else (some false)) else (some false))
set_option maxHeartbeats 8000000 in
set_option maxRecDepth 100000 in
theorem nodeset_Has.calls (a0:Int) (a1:Int) (r:Bool) (w:World) (h:nodeset_Has.f a0 a1=some r) :
  Calls Try.prog 46 #[.int .i64 a0,.int .i64 a1] w fun e w'=>e = .returned (.bool r)∧Drawn0 w w':=by
 have H:((nodeset_Valid.f a0).bind fun a2=>(if a2=true then (if a1≥0 then (if a1 < 10 then (if 0≤a1 then (some ((Go.bits .and .i64 a0 (shl .i64 1 a1)) != 0)) else (none)) else (some false)) else (some false)) else (some false)))=some r:=h
 clear h
 replace H:=Option.bind_eq_some_iff.mp H
 obtain ⟨a2,a3,H⟩:=H
 replace H:(if a2=true then (if a1≥0 then (if a1 < 10 then (if 0≤a1 then (some ((Go.bits .and .i64 a0 (shl .i64 1 a1)) != 0)) else (none)) else (some false)) else (some false)) else (some false))=some r:=H
 have A3:=Aside0.mk a3
 clear a3
 by_cases c4:a2=true
 ·subst c4
  rw [if_pos rfl] at H
  by_cases c5:a1≥0
  ·rw [if_pos c5] at H
   have a4:decide (0≤a1)=true:=decide_eq_true c5
   clear c5
   by_cases c6:a1 < 10
   ·rw [if_pos c6] at H
    have a5:decide (a1 < 10)=true:=decide_eq_true c6
    clear c6
    by_cases c7:0≤a1
    ·rw [if_pos c7] at H
     have a6:=eq_true c7
     have a7:decide (0≤a1)=true:=decide_eq_true c7
     clear c7
     obtain ⟨ji8,hji8⟩:∃ j_:Int,(shl .i64 1 a1)=j_:=⟨_,rfl⟩
     replace H:(some ((Go.bits .and .i64 a0 (ji8)) != 0))=some r:=by first|(rw [hji8] at H;exact H)|(simp only [hji8] at H ⊢;exact H)
     (try rw [hji8] at A3)
     have hji8_:(IntKind.i64.wrap (1 * 2 ^ min a1.toNat 64))=ji8:=hji8
     have hji8z:a1≤64→(IntKind.i64.wrap (1 * 2 ^ a1.toNat))=ji8:=shl_small hji8
     have hji8u:(IntKind.i64.wrap (2 ^ min a1.toNat 64))=ji8:=by have h_:=hji8_;rw [Int.one_mul] at h_;exact h_
     have hji8v:a1≤64→(IntKind.i64.wrap (2 ^ a1.toNat))=ji8:=fun hle_=>by have h_:=hji8z hle_;rw [Int.one_mul] at h_;exact h_
     have hji8y:(wrap64 (1 * 2 ^ min a1.toNat 64))=ji8:=(i64_w _).symm.trans hji8_
     have hji8x:a1≤64→(wrap64 (1 * 2 ^ a1.toNat))=ji8:=fun h_=>(i64_w _).symm.trans (hji8z h_)
     obtain rfl:=Option.some.inj H
     go_enter Try.func46,Try.ntmps46
     go_wp2_with (first|((with_reducible refine gate_callee (f:=57) rfl ?_);refine goesL_ (some 6) rfl rfl Try.func57 (by kernel_rfl) rfl #[.int .i64 a0] rfl tz0 ?_;(with_reducible refine (nodeset_Valid.calls a0 true _ A3.out).mono ?_);rintro e w' ⟨rfl,⟨nd,rfl⟩⟩;refine ⟨_,rfl,?_⟩))
     go_ret
     exact ⟨by first|rfl|(simp;done)|(simp only [← hji8] <;> (first|rfl|simp))|(simp [*];done),by repeat (first|exact Drawn0.refl _|apply Drawn0.step)⟩
    ·rw [if_neg c7] at H
     exact absurd H (by simp)
   ·rw [if_neg c6] at H
    have a5:decide (a1 < 10)=false:=decide_eq_false c6
    clear c6
    obtain rfl:=Option.some.inj H
    go_enter Try.func46,Try.ntmps46
    go_wp2_with (first|((with_reducible refine gate_callee (f:=57) rfl ?_);refine goesL_ (some 6) rfl rfl Try.func57 (by kernel_rfl) rfl #[.int .i64 a0] rfl tz0 ?_;(with_reducible refine (nodeset_Valid.calls a0 true _ A3.out).mono ?_);rintro e w' ⟨rfl,⟨nd,rfl⟩⟩;refine ⟨_,rfl,?_⟩))
    go_ret
    exact ⟨by first|rfl|(simp;done)|(simp [*];done),by repeat (first|exact Drawn0.refl _|apply Drawn0.step)⟩
  ·rw [if_neg c5] at H
   have a4:decide (0≤a1)=false:=decide_eq_false c5
   clear c5
   obtain rfl:=Option.some.inj H
   go_enter Try.func46,Try.ntmps46
   go_wp2_with (first|((with_reducible refine gate_callee (f:=57) rfl ?_);refine goesL_ (some 6) rfl rfl Try.func57 (by kernel_rfl) rfl #[.int .i64 a0] rfl tz0 ?_;(with_reducible refine (nodeset_Valid.calls a0 true _ A3.out).mono ?_);rintro e w' ⟨rfl,⟨nd,rfl⟩⟩;refine ⟨_,rfl,?_⟩))
   go_ret
   exact ⟨by first|rfl|(simp;done)|(simp [*];done),by repeat (first|exact Drawn0.refl _|apply Drawn0.step)⟩
 ·replace c4:=Bool.eq_false_iff.mpr c4
  subst c4
  rw [if_neg (show ¬ (false=true) by decide)] at H
  obtain rfl:=Option.some.inj H
  go_enter Try.func46,Try.ntmps46
  go_wp2_with (first|((with_reducible refine gate_callee (f:=57) rfl ?_);refine goesL_ (some 6) rfl rfl Try.func57 (by kernel_rfl) rfl #[.int .i64 a0] rfl tz0 ?_;(with_reducible refine (nodeset_Valid.calls a0 false _ A3.out).mono ?_);rintro e w' ⟨rfl,⟨nd,rfl⟩⟩;refine ⟨_,rfl,?_⟩))
  go_ret
  exact ⟨by first|rfl|(simp;done)|(simp [*];done),by repeat (first|exact Drawn0.refl _|apply Drawn0.step)⟩
mutual
def threshold_Satisfied.l0:Nat→Int→Int→List Int→Int→Int→Int→List Int→List (S30)→Option (Bool)
 | 0,_,_,_,_,_,_,_,_=>none
 | k + 1,x1,x5,g0,g8,e3,d4,e4,b9=>if e3 < g8 then (if 0≤e3 then (if e3 < (g0.length:Int) then ((nodeset_Has.f x1 (rd g0 e3)).bind fun g1=>(if g1=true then (threshold_Satisfied.l0 k x1 (wrap64 (x5 + 1)) g0 g8 (wrap64 (e3 + 1)) d4 e4 b9) else (threshold_Satisfied.l0 k x1 x5 g0 g8 (wrap64 (e3 + 1)) d4 e4 b9))) else (none)) else (none)) else (threshold_Satisfied.l1 k x1 x5 b9 (b9.length:Int) 0 d4 e4 b9)
def threshold_Satisfied.l1:Nat→Int→Int→List (S30)→Int→Int→Int→List Int→List (S30)→Option (Bool)
 | 0,_,_,_,_,_,_,_,_=>none
 | k + 1,x1,x5,e5,g9,c0,d4,e4,b9=>if c0 < g9 then (if 0≤c0 then (if c0 < (e5.length:Int) then ((threshold_Satisfied.f k ((rd_T30 e5 c0).f0) ((rd_T30 e5 c0).f1) ((rd_T30 e5 c0).f2) x1).bind fun g2=>(if g2=true then (threshold_Satisfied.l1 k x1 (wrap64 (x5 + 1)) e5 g9 (wrap64 (c0 + 1)) d4 e4 b9) else (threshold_Satisfied.l1 k x1 x5 e5 g9 (wrap64 (c0 + 1)) d4 e4 b9))) else (none)) else (none)) else (some (decide (x5≥d4)))
def threshold_Satisfied.f:Nat→Int→List Int→List (S30)→Int→Option (Bool)
 | 0,_,_,_,_=>none
 | k + 1,a9,a5,a4,a1=>(nodeset_Valid.f a1).bind fun e6=>(if e6=true then (threshold_Satisfied.l0 k a1 0 a5 (a5.length:Int) 0 a9 a5 a4) else (some false))
end
theorem threshold_Satisfied.mono_l:∀ k,(∀ y0 y1 y2 y3,LeO (threshold_Satisfied.f k y0 y1 y2 y3) (threshold_Satisfied.f (k + 1) y0 y1 y2 y3))∧(∀ y0 y1 y2 y3 y4 y5 y6 y7,LeO (threshold_Satisfied.l0 k y0 y1 y2 y3 y4 y5 y6 y7) (threshold_Satisfied.l0 (k + 1) y0 y1 y2 y3 y4 y5 y6 y7))∧(∀ y0 y1 y2 y3 y4 y5 y6 y7,LeO (threshold_Satisfied.l1 k y0 y1 y2 y3 y4 y5 y6 y7) (threshold_Satisfied.l1 (k + 1) y0 y1 y2 y3 y4 y5 y6 y7))
 | 0=>⟨fun _ _ _ _ r h=>by simp [threshold_Satisfied.f] at h,fun _ _ _ _ _ _ _ _ r h=>by simp [threshold_Satisfied.l0] at h,fun _ _ _ _ _ _ _ _ r h=>by simp [threshold_Satisfied.l1] at h⟩
 | k + 1=>by
  obtain ⟨e9,g3,g4⟩:=threshold_Satisfied.mono_l k
  refine ⟨?_,?_,?_⟩
  ·intro y0 y1 y2 y3
   unfold threshold_Satisfied.f
   repeat' first
   | (with_reducible exact e9 _ _ _ _)
   | (with_reducible exact g3 _ _ _ _ _ _ _ _)
   | (with_reducible exact g4 _ _ _ _ _ _ _ _)
   | (with_reducible exact LeO.refl _)
   | (with_reducible exact LeO.none _)
   | (with_reducible refine LeO.ite ?_ ?_)
   | (with_reducible refine LeO.bind ?_ (fun _=>?_))
  ·intro y0 y1 y2 y3 y4 y5 y6 y7
   unfold threshold_Satisfied.l0
   repeat' first
   | (with_reducible exact e9 _ _ _ _)
   | (with_reducible exact g3 _ _ _ _ _ _ _ _)
   | (with_reducible exact g4 _ _ _ _ _ _ _ _)
   | (with_reducible exact LeO.refl _)
   | (with_reducible exact LeO.none _)
   | (with_reducible refine LeO.ite ?_ ?_)
   | (with_reducible refine LeO.bind ?_ (fun _=>?_))
  ·intro y0 y1 y2 y3 y4 y5 y6 y7
   unfold threshold_Satisfied.l1
   repeat' first
   | (with_reducible exact e9 _ _ _ _)
   | (with_reducible exact g3 _ _ _ _ _ _ _ _)
   | (with_reducible exact g4 _ _ _ _ _ _ _ _)
   | (with_reducible exact LeO.refl _)
   | (with_reducible exact LeO.none _)
   | (with_reducible refine LeO.ite ?_ ?_)
   | (with_reducible refine LeO.bind ?_ (fun _=>?_))
theorem threshold_Satisfied.mono:∀ a0 a1 a2 a3 k,LeO (threshold_Satisfied.f k a0 a1 a2 a3) (threshold_Satisfied.f (k + 1) a0 a1 a2 a3):=by
 intro a0 a1 a2 a3 k
 obtain ⟨e9,g3,g4⟩:=threshold_Satisfied.mono_l k
 exact e9 a0 a1 a2 a3
set_option maxHeartbeats 8000000 in
set_option maxRecDepth 100000 in
theorem threshold_Satisfied.calls (k:Nat):∀ (a9:Int) (b3:Option Addr) (b4:Nat) (a5:List Int) (c1:Option Addr) (b5:Nat) (a4:List (S30)) (a1:Int) (r:Bool) (w:World) (h0:Kd.C (Kd.int .i64) w b3 a5.length a5) (h1:a5.length≤b4) (h2:Kd.C k30 w c1 a4.length a4) (h3:a4.length≤b5) (h:threshold_Satisfied.f k a9 a5 a4 a1=some r),
  Calls Try.prog 70 #[.agg #[.int .i64 a9,.slice b3 a5.length b4,.slice c1 a4.length b5],.int .i64 a1] w fun e w'=>e = .returned (.bool r)∧Below w.heap.size w w':=by
 induction k using Nat.strongRecOn with
 | _ k ih=>
 intro a9 b3 b4 a5 c1 b5 a4 a1 r w h0 h1 h2 h3 h
 cases k with
 | zero=>exact absurd h (by simp [threshold_Satisfied.f])
 | succ k=>
 simp only [threshold_Satisfied.f] at h
 have hu30:=Try.underlying30
 have i5:=Aside0.mk h0
 have l8:=Aside0.mk h1
 clear h0 h1
 have i6:=Aside0.mk h2
 have l9:=Aside0.mk h3
 clear h2 h3
 have HB:=Aside0.mk (Below.refl w.heap.size w)
 have H:((nodeset_Valid.f a1).bind fun e6=>(if e6=true then (threshold_Satisfied.l0 k a1 0 a5 (a5.length:Int) 0 a9 a5 a4) else (some false)))=some r:=h
 clear h
 replace H:=Option.bind_eq_some_iff.mp H
 obtain ⟨e6,i7,H⟩:=H
 replace H:(if e6=true then (threshold_Satisfied.l0 k a1 0 a5 (a5.length:Int) 0 a9 a5 a4) else (some false))=some r:=H
 have A3:=Aside0.mk i7
 clear i7
 by_cases c4:e6=true
 ·subst c4
  rw [if_pos rfl] at H
  have H':=Aside0.mk H
  clear H
  go_enter Try.func70,Try.ntmps70
  go_wp2_with (first|((with_reducible refine gate_dst (N:=2) rfl ?_);refine box_event ?hg (N:=2) ?hd (cs:=#[.int .i64 a9,.slice b3 a5.length b4,.slice c1 a4.length b5]) (t:=30) ?hr ?_;(case hd=>rfl);(case hg=>rfl);(case hr=>first|(go_simp;done)|(go_simp;rfl));intro b2 hg w5 hbox hb;refine ap4 (below_step (belowP HB) hb) (hbox) ((by rw [hg];exact (below_size (belowP HB)):w.heap.size≤b2)) ((by rw [hg];exact (below_size (belowP HB)):w.heap.size≤b2)) ?_;clear HB;intro HB a7 GW397 b7;clear hb hbox hg)|((with_reducible refine gate_callee (f:=57) rfl ?_);refine goesL_ (some 11) rfl rfl Try.func57 (by kernel_rfl) rfl #[.int .i64 a1] rfl tz0 ?_;(with_reducible refine (nodeset_Valid.calls a1 true _ A3.out).mono ?_);rintro e w' ⟨rfl,⟨nd,rfl⟩⟩;refine ⟨_,rfl,?_⟩;have i8:w5.cell? ⟨b2,0,none⟩=some (.int .i64 a9):=(blk_cell a7.out 0).trans rfl;have i9:w5.cell? ⟨b2,1,none⟩=some (.slice b3 a5.length b4):=(blk_cell a7.out 1).trans rfl;have j2:w5.cell? ⟨b2,2,none⟩=some (.slice c1 a4.length b5):=(blk_cell a7.out 2).trans rfl;have j3:=blk_frozen a7.out 0;have j4:=blk_frozen a7.out 1;have j5:=blk_frozen a7.out 2))
  go_loopg [5,16] k (fun kq v5 k3 w'=>∃ (d0:Int) (a8:Int),v5 = .int .i64 d0∧k3 = .int .i64 a8∧Aside0 (threshold_Satisfied.l0 kq a1 d0 a5 (a5.length:Int) a8 a9 a5 a4=some r)∧Aside0 (kq≤k)∧Aside0 (w'.heap[b2]? = some (.cells #[.int .i64 a9,(.slice b3 a5.length b4),(.slice c1 a4.length b5)] 30 (0,0)))∧Aside0 (Below w.heap.size w w'))
  case atStart=>exact ⟨(0),(0),tz3,tz3,H',⟨Nat.le_refl _⟩,⟨by refine blkQ ?_;exact a7.out⟩,⟨by repeat (first|(with_reducible first|exact HB.out|apply below_alloc|apply pw_below_drewN|apply below_drew1|refine below_set ?_ b7.out)|exact HB.out)⟩⟩
  case round=>
   clear H'
   try clear c4
   try clear i8
   try clear i9
   try clear j2
   try clear j3
   try clear j4
   try clear j5
   try clear a7
   try clear HB
   obtain ⟨d0,a8,rfl,rfl,HA,b6,a7,HB⟩:=hrel
   cases gk with
   | zero=>exact absurd HA.out (by simp [threshold_Satisfied.l0])
   | succ k1=>
    have H:=HA.out
    clear HA
    simp only [threshold_Satisfied.l0] at H
    by_cases c7:a8 < (a5.length:Int)
    ·rw [if_pos c7] at H
     have j6:decide (a8 < (a5.length:Int))=true:=decide_eq_true c7
     clear c7
     by_cases c8:0≤a8
     ·rw [if_pos c8] at H
      have k4:decide (0≤a8)=true:=decide_eq_true c8
      clear c8
      by_cases c9:a8 < (a5.length:Int)
      ·rw [if_pos c9] at H
       have k5:decide (a8 < (a5.length:Int))=true:=decide_eq_true c9
       clear c9
       replace H:=Option.bind_eq_some_iff.mp H
       obtain ⟨g1,j7,H⟩:=H
       replace H:(if g1=true then (threshold_Satisfied.l0 k1 a1 (wrap64 (d0 + 1)) a5 (a5.length:Int) (wrap64 (a8 + 1)) a9 a5 a4) else (threshold_Satisfied.l0 k1 a1 d0 a5 (a5.length:Int) (wrap64 (a8 + 1)) a9 a5 a4))=some r:=H
       have j8:=Aside0.mk j7
       clear j7
       by_cases f3:g1=true
       ·subst f3
        rw [if_pos rfl] at H
        have H':=Aside0.mk H
        clear H
        have d1:0≤(a8:Int):=of_decide_eq_true tz2
        have d2:a8 < (a5.length:Int):=of_decide_eq_true tz2
        obtain ⟨k6,h4,d3⟩:=Kd.at_int i5.out a8 d1 d2
        cases h4
        replace d3:=(HB.out.cell (World.block_lt_of_cell? w _ d3)).trans d3
        replace d1:=eq_true d1
        replace d2:=eq_true d2
        go_wp2_with (first|((with_reducible refine gate_callee (f:=46) rfl ?_);refine goesL_ (some 22) rfl rfl Try.func46 (by kernel_rfl) rfl #[.int .i64 a1,.int .i64 (rd a5 a8)] rfl tz0 ?_;(with_reducible refine (nodeset_Has.calls a1 (rd a5 a8) true _ j8.out).mono ?_);rintro e w' ⟨rfl,⟨nd,rfl⟩⟩;refine ⟨_,rfl,?_⟩))
        go_roundg k1
        case measure=>have:=b6.out;omega
        case rel=>exact ⟨(wrap64 (d0 + 1)),(wrap64 (a8 + 1)),tz3,tz3,H',⟨by have:=b6.out;omega⟩,⟨by refine blkQ ?_;exact a7.out⟩,⟨by repeat (first|(with_reducible first|exact HB.out|apply below_alloc|apply pw_below_drewN|apply below_drew1|refine below_set ?_ b7.out)|exact HB.out)⟩⟩
       ·replace f3:=Bool.eq_false_iff.mpr f3
        subst f3
        rw [if_neg (show ¬ (false=true) by decide)] at H
        have H':=Aside0.mk H
        clear H
        have d1:0≤(a8:Int):=of_decide_eq_true tz2
        have d2:a8 < (a5.length:Int):=of_decide_eq_true tz2
        obtain ⟨k6,h4,d3⟩:=Kd.at_int i5.out a8 d1 d2
        cases h4
        replace d3:=(HB.out.cell (World.block_lt_of_cell? w _ d3)).trans d3
        replace d1:=eq_true d1
        replace d2:=eq_true d2
        go_wp2_with (first|((with_reducible refine gate_callee (f:=46) rfl ?_);refine goesL_ (some 22) rfl rfl Try.func46 (by kernel_rfl) rfl #[.int .i64 a1,.int .i64 (rd a5 a8)] rfl tz0 ?_;(with_reducible refine (nodeset_Has.calls a1 (rd a5 a8) false _ j8.out).mono ?_);rintro e w' ⟨rfl,⟨nd,rfl⟩⟩;refine ⟨_,rfl,?_⟩))
        go_roundg k1
        case measure=>have:=b6.out;omega
        case rel=>exact ⟨(d0),(wrap64 (a8 + 1)),tz3,tz3,H',⟨by have:=b6.out;omega⟩,⟨by refine blkQ ?_;exact a7.out⟩,⟨by repeat (first|(with_reducible first|exact HB.out|apply below_alloc|apply pw_below_drewN|apply below_drew1|refine below_set ?_ b7.out)|exact HB.out)⟩⟩
      ·rw [if_neg c9] at H
       exact absurd H (by simp)
     ·rw [if_neg c8] at H
      exact absurd H (by simp)
    ·rw [if_neg c7] at H
     have j6:decide (a8 < (a5.length:Int))=false:=decide_eq_false c7
     clear c7
     have H':=Aside0.mk H
     clear H
     obtain ⟨k7,k8,k9⟩:=cells3 a7.out
     obtain ⟨l3,l4,l5⟩:=froz3 a7.out
     go_wp2
     go_loopg [5,29] k1 (fun kq v5 l6 w'=>∃ (d5:Int) (a6:Int),v5 = .int .i64 d5∧l6 = .int .i64 a6∧Aside0 (threshold_Satisfied.l1 kq a1 d5 a4 (a4.length:Int) a6 a9 a5 a4=some r)∧Aside0 (kq≤k1)∧Aside0 (w'.heap[b2]? = some (.cells #[.int .i64 a9,(.slice b3 a5.length b4),(.slice c1 a4.length b5)] 30 (0,0)))∧Aside0 (Below w.heap.size w w'))
     case atStart=>exact ⟨(d0),(0),tz3,tz3,H',⟨Nat.le_refl _⟩,⟨by refine blkQ ?_;exact a7.out⟩,⟨by repeat (first|(with_reducible first|exact HB.out|apply below_alloc|apply pw_below_drewN|apply below_drew1|refine below_set ?_ b7.out)|exact HB.out)⟩⟩
     case round=>
      clear H'
      try clear c4
      try clear c7
      try clear j6
      try clear c8
      try clear k4
      try clear c9
      try clear k5
      try clear f3
      try clear k7
      try clear k8
      try clear k9
      try clear i8
      try clear i9
      try clear j2
      try clear l3
      try clear l4
      try clear l5
      try clear j3
      try clear j4
      try clear j5
      try clear d3
      try clear d1
      try clear d2
      try clear a7
      try clear HB
      obtain ⟨d5,a6,rfl,rfl,HA,e7,a7,HB⟩:=hrel
      cases gk with
      | zero=>exact absurd HA.out (by simp [threshold_Satisfied.l1])
      | succ k2=>
       have H:=HA.out
       clear HA
       simp only [threshold_Satisfied.l1] at H
       by_cases e8:a6 < (a4.length:Int)
       ·rw [if_pos e8] at H
        have l7:decide (a6 < (a4.length:Int))=true:=decide_eq_true e8
        clear e8
        by_cases g5:0≤a6
        ·rw [if_pos g5] at H
         have m0:decide (0≤a6)=true:=decide_eq_true g5
         clear g5
         by_cases g6:a6 < (a4.length:Int)
         ·rw [if_pos g6] at H
          have m1:decide (a6 < (a4.length:Int))=true:=decide_eq_true g6
          clear g6
          replace H:=Option.bind_eq_some_iff.mp H
          obtain ⟨g2,j9,H⟩:=H
          replace H:(if g2=true then (threshold_Satisfied.l1 k2 a1 (wrap64 (d5 + 1)) a4 (a4.length:Int) (wrap64 (a6 + 1)) a9 a5 a4) else (threshold_Satisfied.l1 k2 a1 d5 a4 (a4.length:Int) (wrap64 (a6 + 1)) a9 a5 a4))=some r:=H
          have k0:=Aside0.mk j9
          clear j9
          by_cases g7:g2=true
          ·subst g7
           rw [if_pos rfl] at H
           have H':=Aside0.mk H
           clear H
           have d6:0≤(a6:Int):=of_decide_eq_true tz2
           have d7:a6 < (a4.length:Int):=of_decide_eq_true tz2
           obtain ⟨h5,d8,d9,f4,f5,h6,e0,e1,e2,f6,f7,f8,f9⟩:=at_T30 i6.out a6 d6 d7
           cases h6
           replace e0:=(HB.out.cell (World.block_lt_of_cell? w _ e0)).trans e0
           replace e1:=(HB.out.cell (World.block_lt_of_cell? w _ e1)).trans e1
           replace e2:=(HB.out.cell (World.block_lt_of_cell? w _ e2)).trans e2
           have h7:=Aside0.mk f7
           have h8:=Aside0.mk f6
           clear f7 f6
           have h9:=Aside0.mk f9
           have i0:=Aside0.mk f8
           clear f9 f8
           replace d6:=eq_true d6
           replace d7:=eq_true d7
           go_wp2_with (first|((with_reducible refine gate_dst (N:=9) rfl ?_);refine box_event ?hg (N:=9) ?hd (cs:=#[.int .i64 0,.slice none 0 0,.slice none 0 0]) (t:=30) ?hr ?_;(case hd=>rfl);(case hg=>rfl);(case hr=>first|(go_simp;done)|(go_simp;rfl));intro b1 hg i1 hbox hb;refine ap7 (blk_below (blkP a7) hb) (below_step (belowP HB) hb) (hbox) ((by rw [hg];exact (below_size (belowP HB)):w.heap.size≤b1)) ((by rw [hg];exact (below_size (belowP HB)):w.heap.size≤b1)) ((by rw [hg];exact Nat.ne_of_lt (blk_lt (blkP a7)):b2≠b1)) ((by rw [hg];exact Nat.ne_of_gt (blk_lt (blkP a7)):b1≠b2)) ?_;clear a7 HB;intro a7 HB b0 GW402 i2 b8 i3;clear hb hbox hg;have m2:=i3.out;have m3:=b8.out;have m4:i1.cell? ⟨b1,0,none⟩=some (.int .i64 0):=(blk_cell b0.out 0).trans rfl;have m5:i1.cell? ⟨b1,1,none⟩=some (.slice none 0 0):=(blk_cell b0.out 1).trans rfl;have m6:i1.cell? ⟨b1,2,none⟩=some (.slice none 0 0):=(blk_cell b0.out 2).trans rfl;have m7:=blk_frozen b0.out 0;have m8:=blk_frozen b0.out 1;have m9:=blk_frozen b0.out 2)|((with_reducible refine gate_callee (f:=70) rfl ?_);refine goesL_ (some 35) rfl rfl Try.func70 (by kernel_rfl) rfl #[.agg #[.int .i64 ((rd_T30 a4 a6).f0),.slice d8 ((rd_T30 a4 a6).f1).length d9,.slice f4 ((rd_T30 a4 a6).f2).length f5],.int .i64 a1] rfl tz0 ?_;(with_reducible refine (ih k2 (by have:=b6.out;have:=e7.out;omega) ((rd_T30 a4 a6).f0) _ _ ((rd_T30 a4 a6).f1) _ _ ((rd_T30 a4 a6).f2) a1 true _ ?side1 ?side2 ?side3 ?side4 k0.out).mono ?_);(case side1=>exact Kd.C_below h7.out (belowP HB));(case side2=>exact h8.out);(case side3=>exact Kd.C_below h9.out (belowP HB));(case side4=>exact i0.out);rintro e n0 ⟨rfl,hb⟩;refine ⟨_,rfl,?_⟩;refine ap3 (blk_below (g:=b2) (o:=.cells #[.int .i64 a9,.slice b3 a5.length b4,.slice (some h5) a4.length b5] 30 (0,0)) (by refine blkQ ?_;refine blk_far ?_ b8.out _;refine blkQ ?_;refine blk_far ?_ b8.out _;refine blkQ ?_;refine blk_far ?_ b8.out _;refine blkQ ?_;exact a7.out) hb) (blk_below (g:=b1) (o:=.cells #[.int .i64 ((rd_T30 a4 a6).f0),.slice d8 ((rd_T30 a4 a6).f1).length d9,.slice f4 ((rd_T30 a4 a6).f2).length f5] 30 (0,0)) (by refine blkQ ?_;refine blk_put (cs:=#[.int .i64 ((rd_T30 a4 a6).f0),.slice d8 ((rd_T30 a4 a6).f1).length d9,.slice none 0 0]) ?_ 2 _ rfl;refine blkQ ?_;refine blk_put (cs:=#[.int .i64 ((rd_T30 a4 a6).f0),.slice none 0 0,.slice none 0 0]) ?_ 1 _ rfl;refine blkQ ?_;refine blk_put (cs:=#[.int .i64 0,.slice none 0 0,.slice none 0 0]) ?_ 0 _ rfl;refine blkQ ?_;exact b0.out) hb) (below_step (belowP HB) hb) ?_;clear a7 b0 HB;intro a7 b0 HB))
           go_roundg k2
           case measure=>have:=b6.out;have:=e7.out;omega
           case rel=>exact ⟨(wrap64 (d5 + 1)),(wrap64 (a6 + 1)),tz3,tz3,H',⟨by have:=b6.out;have:=e7.out;omega⟩,⟨by refine blkQ ?_;exact a7.out⟩,⟨by repeat (first|(with_reducible first|exact HB.out|apply below_alloc|apply pw_below_drewN|apply below_drew1|refine below_set ?_ b7.out|refine below_set ?_ i2.out)|exact HB.out)⟩⟩
          ·replace g7:=Bool.eq_false_iff.mpr g7
           subst g7
           rw [if_neg (show ¬ (false=true) by decide)] at H
           have H':=Aside0.mk H
           clear H
           have d6:0≤(a6:Int):=of_decide_eq_true tz2
           have d7:a6 < (a4.length:Int):=of_decide_eq_true tz2
           obtain ⟨h5,d8,d9,f4,f5,h6,e0,e1,e2,f6,f7,f8,f9⟩:=at_T30 i6.out a6 d6 d7
           cases h6
           replace e0:=(HB.out.cell (World.block_lt_of_cell? w _ e0)).trans e0
           replace e1:=(HB.out.cell (World.block_lt_of_cell? w _ e1)).trans e1
           replace e2:=(HB.out.cell (World.block_lt_of_cell? w _ e2)).trans e2
           have h7:=Aside0.mk f7
           have h8:=Aside0.mk f6
           clear f7 f6
           have h9:=Aside0.mk f9
           have i0:=Aside0.mk f8
           clear f9 f8
           replace d6:=eq_true d6
           replace d7:=eq_true d7
           go_wp2_with (first|((with_reducible refine gate_dst (N:=9) rfl ?_);refine box_event ?hg (N:=9) ?hd (cs:=#[.int .i64 0,.slice none 0 0,.slice none 0 0]) (t:=30) ?hr ?_;(case hd=>rfl);(case hg=>rfl);(case hr=>first|(go_simp;done)|(go_simp;rfl));intro b1 hg i4 hbox hb;refine ap7 (blk_below (blkP a7) hb) (below_step (belowP HB) hb) (hbox) ((by rw [hg];exact (below_size (belowP HB)):w.heap.size≤b1)) ((by rw [hg];exact (below_size (belowP HB)):w.heap.size≤b1)) ((by rw [hg];exact Nat.ne_of_lt (blk_lt (blkP a7)):b2≠b1)) ((by rw [hg];exact Nat.ne_of_gt (blk_lt (blkP a7)):b1≠b2)) ?_;clear a7 HB;intro a7 HB b0 GW402 i2 b8 i3;clear hb hbox hg;have n1:=i3.out;have n2:=b8.out;have n3:i4.cell? ⟨b1,0,none⟩=some (.int .i64 0):=(blk_cell b0.out 0).trans rfl;have n4:i4.cell? ⟨b1,1,none⟩=some (.slice none 0 0):=(blk_cell b0.out 1).trans rfl;have n5:i4.cell? ⟨b1,2,none⟩=some (.slice none 0 0):=(blk_cell b0.out 2).trans rfl;have n6:=blk_frozen b0.out 0;have n7:=blk_frozen b0.out 1;have n8:=blk_frozen b0.out 2)|((with_reducible refine gate_callee (f:=70) rfl ?_);refine goesL_ (some 35) rfl rfl Try.func70 (by kernel_rfl) rfl #[.agg #[.int .i64 ((rd_T30 a4 a6).f0),.slice d8 ((rd_T30 a4 a6).f1).length d9,.slice f4 ((rd_T30 a4 a6).f2).length f5],.int .i64 a1] rfl tz0 ?_;(with_reducible refine (ih k2 (by have:=b6.out;have:=e7.out;omega) ((rd_T30 a4 a6).f0) _ _ ((rd_T30 a4 a6).f1) _ _ ((rd_T30 a4 a6).f2) a1 false _ ?side1 ?side2 ?side3 ?side4 k0.out).mono ?_);(case side1=>exact Kd.C_below h7.out (belowP HB));(case side2=>exact h8.out);(case side3=>exact Kd.C_below h9.out (belowP HB));(case side4=>exact i0.out);rintro e n9 ⟨rfl,hb⟩;refine ⟨_,rfl,?_⟩;refine ap3 (blk_below (g:=b2) (o:=.cells #[.int .i64 a9,.slice b3 a5.length b4,.slice (some h5) a4.length b5] 30 (0,0)) (by refine blkQ ?_;refine blk_far ?_ b8.out _;refine blkQ ?_;refine blk_far ?_ b8.out _;refine blkQ ?_;refine blk_far ?_ b8.out _;refine blkQ ?_;exact a7.out) hb) (blk_below (g:=b1) (o:=.cells #[.int .i64 ((rd_T30 a4 a6).f0),.slice d8 ((rd_T30 a4 a6).f1).length d9,.slice f4 ((rd_T30 a4 a6).f2).length f5] 30 (0,0)) (by refine blkQ ?_;refine blk_put (cs:=#[.int .i64 ((rd_T30 a4 a6).f0),.slice d8 ((rd_T30 a4 a6).f1).length d9,.slice none 0 0]) ?_ 2 _ rfl;refine blkQ ?_;refine blk_put (cs:=#[.int .i64 ((rd_T30 a4 a6).f0),.slice none 0 0,.slice none 0 0]) ?_ 1 _ rfl;refine blkQ ?_;refine blk_put (cs:=#[.int .i64 0,.slice none 0 0,.slice none 0 0]) ?_ 0 _ rfl;refine blkQ ?_;exact b0.out) hb) (below_step (belowP HB) hb) ?_;clear a7 b0 HB;intro a7 b0 HB))
           go_roundg k2
           case measure=>have:=b6.out;have:=e7.out;omega
           case rel=>exact ⟨(d5),(wrap64 (a6 + 1)),tz3,tz3,H',⟨by have:=b6.out;have:=e7.out;omega⟩,⟨by refine blkQ ?_;exact a7.out⟩,⟨by repeat (first|(with_reducible first|exact HB.out|apply below_alloc|apply pw_below_drewN|apply below_drew1|refine below_set ?_ b7.out|refine below_set ?_ i2.out)|exact HB.out)⟩⟩
         ·rw [if_neg g6] at H
          exact absurd H (by simp)
        ·rw [if_neg g5] at H
         exact absurd H (by simp)
       ·rw [if_neg e8] at H
        have l7:decide (a6 < (a4.length:Int))=false:=decide_eq_false e8
        clear e8
        obtain rfl:=Option.some.inj H
        obtain ⟨o0,o1,o2⟩:=cells3 a7.out
        obtain ⟨o3,o4,o5⟩:=froz3 a7.out
        go_wp2
        go_ret
        exact ⟨rE,by repeat (first|(with_reducible first|exact HB.out|apply below_alloc|apply pw_below_drewN|apply below_drew1|refine below_set ?_ b7.out)|exact HB.out)⟩
 ·replace c4:=Bool.eq_false_iff.mpr c4
  subst c4
  rw [if_neg (show ¬ (false=true) by decide)] at H
  obtain rfl:=Option.some.inj H
  go_enter Try.func70,Try.ntmps70
  go_wp2_with (first|((with_reducible refine gate_dst (N:=2) rfl ?_);refine box_event ?hg (N:=2) ?hd (cs:=#[.int .i64 a9,.slice b3 a5.length b4,.slice c1 a4.length b5]) (t:=30) ?hr ?_;(case hd=>rfl);(case hg=>rfl);(case hr=>first|(go_simp;done)|(go_simp;rfl));intro b2 hg o6 hbox hb;refine ap4 (below_step (belowP HB) hb) (hbox) ((by rw [hg];exact (below_size (belowP HB)):w.heap.size≤b2)) ((by rw [hg];exact (below_size (belowP HB)):w.heap.size≤b2)) ?_;clear HB;intro HB a7 GW397 b7;clear hb hbox hg)|((with_reducible refine gate_callee (f:=57) rfl ?_);refine goesL_ (some 11) rfl rfl Try.func57 (by kernel_rfl) rfl #[.int .i64 a1] rfl tz0 ?_;(with_reducible refine (nodeset_Valid.calls a1 false _ A3.out).mono ?_);rintro e w' ⟨rfl,⟨nd,rfl⟩⟩;refine ⟨_,rfl,?_⟩))
  go_ret
  exact ⟨rE,by repeat (first|(with_reducible first|exact HB.out|apply below_alloc|apply pw_below_drewN|apply below_drew1|refine below_set ?_ b7.out)|exact HB.out)⟩
def closure_content.f (k:Nat) (a3:List (S87)) (a1:Int) (a2:Int):Option (Bool):=if 0≤a1 then (if a1 < (a3.length:Int) then ((threshold_Satisfied.f k ((rd_T87 a3 a1).f1.f0) ((rd_T87 a3 a1).f1.f1) ((rd_T87 a3 a1).f1.f2) a2).bind fun a4=>(some a4)) else (none)) else (none)
theorem closure_content.mono:∀ a0 a1 a2 k,LeO (closure_content.f k a0 a1 a2) (closure_content.f (k + 1) a0 a1 a2):=by
 intro a0 a1 a2 k
 unfold closure_content.f
 repeat' first
   | (with_reducible apply threshold_Satisfied.mono)
   | (with_reducible exact LeO.refl _)
   | (with_reducible exact LeO.none _)
   | (with_reducible refine LeO.ite ?_ ?_)
   | (with_reducible refine LeO.bind ?_ (fun _=>?_))
set_option maxHeartbeats 8000000 in
set_option maxRecDepth 100000 in
theorem closure_content.calls (k:Nat) (a6:Option Addr) (a7:Nat) (a3:List (S87)) (a1:Int) (a2:Int) (r:Bool) (w:World) (b5:Kd.C k87 w a6 a3.length a3) (b6:a3.length≤a7) (h:closure_content.f k a3 a1 a2=some r) :
  Calls Try.prog 87 #[.agg #[.slice a6 a3.length a7],.int .i64 a1,.int .i64 a2] w fun e w'=>e = .returned (.bool r)∧Below w.heap.size w w':=by
 have hu53:=Try.underlying53
 have hu30:=Try.underlying30
 have d0:=Aside0.mk b5
 have e1:=Aside0.mk b6
 clear b5 b6
 have HB:=Aside0.mk (Below.refl w.heap.size w)
 have H:(if 0≤a1 then (if a1 < (a3.length:Int) then ((threshold_Satisfied.f k ((rd_T87 a3 a1).f1.f0) ((rd_T87 a3 a1).f1.f1) ((rd_T87 a3 a1).f1.f2) a2).bind fun a4=>(some a4)) else (none)) else (none))=some r:=h
 clear h
 by_cases c4:0≤a1
 ·rw [if_pos c4] at H
  have e2:decide (0≤a1)=true:=decide_eq_true c4
  clear c4
  by_cases c5:a1 < (a3.length:Int)
  ·rw [if_pos c5] at H
   have e3:decide (a1 < (a3.length:Int))=true:=decide_eq_true c5
   clear c5
   replace H:=Option.bind_eq_some_iff.mp H
   obtain ⟨a4,b7,H⟩:=H
   replace H:(some a4)=some r:=H
   have A6:=Aside0.mk b7
   clear b7
   obtain rfl:=Option.some.inj H
   go_enter Try.func87,Try.ntmps87
   go_wp2_with (first|((with_reducible refine gate_dst (N:=3) rfl ?_);refine box_event ?hg (N:=3) ?hd (cs:=#[.slice a6 a3.length a7]) (t:=53) ?hr ?_;(case hd=>rfl);(case hg=>rfl);(case hr=>first|(go_simp;done)|(go_simp;rfl));intro a8 hg w7 hbox hb;refine ap4 (below_step (belowP HB) hb) (hbox) ((by rw [hg];exact (below_size (belowP HB)):w.heap.size≤a8)) ((by rw [hg];exact (below_size (belowP HB)):w.heap.size≤a8)) ?_;clear HB;intro HB a5 GW404 d1;clear hb hbox hg;have e4:w7.cell? ⟨a8,0,none⟩=some (.slice a6 a3.length a7):=(blk_cell a5.out 0).trans rfl;have e5:=blk_frozen a5.out 0;have a9:0≤(a1:Int):=of_decide_eq_true tz2;have b0:a1 < (a3.length:Int):=of_decide_eq_true tz2;obtain ⟨e6,d2,d3,d4,d5,d6,b1,b2,b3,b4,b8,b9,c0,c1⟩:=at_T87 d0.out a1 a9 b0;cases d6;replace b1:=(HB.out.cell (World.block_lt_of_cell? w _ b1)).trans b1;replace b2:=(HB.out.cell (World.block_lt_of_cell? w _ b2)).trans b2;replace b3:=(HB.out.cell (World.block_lt_of_cell? w _ b3)).trans b3;replace b4:=(HB.out.cell (World.block_lt_of_cell? w _ b4)).trans b4;have d7:=Aside0.mk b9;have d8:=Aside0.mk b8;clear b9 b8;have d9:=Aside0.mk c1;have e0:=Aside0.mk c0;clear c1 c0;replace a9:=eq_true a9;replace b0:=eq_true b0)|((with_reducible refine gate_callee (f:=70) rfl ?_);refine goesL_ (some 14) rfl rfl Try.func70 (by kernel_rfl) rfl #[.agg #[.int .i64 ((rd_T87 a3 a1).f1.f0),.slice d2 ((rd_T87 a3 a1).f1.f1).length d3,.slice d4 ((rd_T87 a3 a1).f1.f2).length d5],.int .i64 a2] rfl tz0 ?_;(with_reducible refine (threshold_Satisfied.calls k ((rd_T87 a3 a1).f1.f0) _ _ ((rd_T87 a3 a1).f1.f1) _ _ ((rd_T87 a3 a1).f1.f2) a2 a4 _ ?side1 ?side2 ?side3 ?side4 A6.out).mono ?_);(case side1=>exact Kd.C_q (Kd.C_below d7.out HB.out));(case side2=>exact d8.out);(case side3=>exact Kd.C_q (Kd.C_below d9.out HB.out));(case side4=>exact e0.out);rintro e w9 ⟨rfl,hb⟩;refine ⟨_,rfl,?_⟩;refine ap2 (blk_below (blkP a5) hb) (below_step (belowP HB) hb) ?_;clear a5 HB;intro a5 HB))
   go_ret
   exact ⟨rE,by repeat (first|(with_reducible first|exact HB.out|apply below_alloc|apply pw_below_drewN|apply below_drew1|refine below_set ?_ d1.out)|exact HB.out)⟩
  ·rw [if_neg c5] at H
   exact absurd H (by simp)
 ·rw [if_neg c4] at H
  exact absurd H (by simp)
def nodeset_Nodes.l0:Nat→Int→List Int→Int→Option (List Int)
 | 0,_,_,_=>none
 | k + 1,x0,x3,x5=>if x5 < 10 then ((nodeset_Has.f x0 x5).bind fun a3=>(if a3=true then (if x3.length < 17592186044416 then (nodeset_Nodes.l0 k x0 (x3 ++ [x5]) (wrap64 (x5 + 1))) else (none)) else (nodeset_Nodes.l0 k x0 x3 (wrap64 (x5 + 1))))) else (some x3)
def nodeset_Nodes.f (k:Nat) (a0:Int):Option (List Int):=nodeset_Nodes.l0 k a0 ([]:List Int) 0
theorem nodeset_Nodes.mono_l:∀ k,(∀ y0 y1 y2,LeO (nodeset_Nodes.l0 k y0 y1 y2) (nodeset_Nodes.l0 (k + 1) y0 y1 y2))
 | 0=>fun _ _ _ r h=>by simp [nodeset_Nodes.l0] at h
 | k + 1=>by
  have a6:=nodeset_Nodes.mono_l k
  ·intro y0 y1 y2
   unfold nodeset_Nodes.l0
   repeat' first
   | (with_reducible exact a6 _ _ _)
   | (with_reducible exact LeO.refl _)
   | (with_reducible exact LeO.none _)
   | (with_reducible refine LeO.ite ?_ ?_)
   | (with_reducible refine LeO.bind ?_ (fun _=>?_))
theorem nodeset_Nodes.mono:∀ a0 k,LeO (nodeset_Nodes.f k a0) (nodeset_Nodes.f (k + 1) a0):=by
 intro a0 k
 have a6:=nodeset_Nodes.mono_l k
 unfold nodeset_Nodes.f
 repeat' first
   | (with_reducible exact a6 _ _ _)
   | (with_reducible exact LeO.refl _)
   | (with_reducible exact LeO.none _)
   | (with_reducible refine LeO.ite ?_ ?_)
   | (with_reducible refine LeO.bind ?_ (fun _=>?_))
set_option maxHeartbeats 8000000 in
set_option maxRecDepth 100000 in
theorem nodeset_Nodes.calls (k:Nat) (a0:Int) (r:List Int) (w:World) (h:nodeset_Nodes.f k a0=some r) :
  Calls Try.prog 39 #[.int .i64 a0] w fun e w'=>∃ a8:Value,e = .returned (a8)∧Kd.R (Kd.int .i64) 3 w' w.heap.size (fun _=>True) a8 r∧Below w.heap.size w w':=by
 have HB:=Aside0.mk (Below.refl w.heap.size w)
 have H:(nodeset_Nodes.l0 k a0 ([]:List Int) 0)=some r:=h
 clear h
 have H':=Aside0.mk H
 clear H
 go_enter Try.func39,Try.ntmps39
 go_wp2
 go_loopg [3,5] k (fun kq v3 v5 w'=>∃ (a2:List Int) (a1:Int),v5 = .int .i64 a1∧Aside0 (nodeset_Nodes.l0 kq a0 a2 a1=some r)∧Aside0 (kq≤k)∧Aside0 (Kd.R (Kd.int .i64) 3 w' w.heap.size (fun _=>True) v3 a2)∧Aside0 (Below w.heap.size w w'))
 case atStart=>exact ⟨(([]:List Int)),(0),tz3,H',⟨Nat.le_refl _⟩,⟨by first|exact Kd.R_nil _ _ _ _ _|exact Kd.N_nil _ _ _ _ _|exact Kd.V_nil _ _ _ _ _|exact Kd.Q_nil _ _ _ _ _|exact Kd.S_nil _ _ _ _ _⟩,⟨by repeat (first|(with_reducible first|exact HB.out|apply below_alloc|apply pw_below_drewN|apply below_drew1)|exact HB.out)⟩⟩
 case round=>
  clear H'
  try clear HB
  obtain ⟨a2,a1,rfl,HA,a4,a5,HB⟩:=hrel
  cases gk with
  | zero=>exact absurd HA.out (by simp [nodeset_Nodes.l0])
  | succ k1=>
   have H:=HA.out
   clear HA
   simp only [nodeset_Nodes.l0] at H
   by_cases c2:a1 < 10
   ·rw [if_pos c2] at H
    have b1:decide (a1 < 10)=true:=decide_eq_true c2
    clear c2
    replace H:=Option.bind_eq_some_iff.mp H
    obtain ⟨a3,a9,H⟩:=H
    replace H:(if a3=true then (if a2.length < 17592186044416 then (nodeset_Nodes.l0 k1 a0 (a2 ++ [a1]) (wrap64 (a1 + 1))) else (none)) else (nodeset_Nodes.l0 k1 a0 a2 (wrap64 (a1 + 1))))=some r:=H
    have A3:=Aside0.mk a9
    clear a9
    by_cases c4:a3=true
    ·subst c4
     rw [if_pos rfl] at H
     by_cases c5:a2.length < 17592186044416
     ·rw [if_pos c5] at H
      have LMc5:=Aside0.mk c5
      clear c5
      obtain ⟨b0,a7⟩:∃ y_:List Int,y_=(a2 ++ [a1]):=⟨_,rfl⟩
      replace H:(nodeset_Nodes.l0 k1 a0 b0 (wrap64 (a1 + 1)))=some r:=rH a7 H
      have b2:=Aside0.mk a7
      clear a7
      have H':=Aside0.mk H
      clear H
      go_wp2_with (first|((with_reducible refine gate_callee (f:=46) rfl ?_);refine goesL_ (some 10) rfl rfl Try.func46 (by kernel_rfl) rfl #[.int .i64 a0,.int .i64 a1] rfl tz0 ?_;(with_reducible refine (nodeset_Has.calls a0 a1 true _ A3.out).mono ?_);rintro e w' ⟨rfl,⟨nd,rfl⟩⟩;refine ⟨_,rfl,?_⟩)|((with_reducible refine gate_builtin (b:=.append) (xs:=#[.tmp 11,.tmp 13]) rfl ?_);at_builtin;refine Kd.R_append (Kd.int .i64) (w0:=w) w.heap.size rfl (.tmp 11) (.tmp 13) 27 3 (.int .i64 0) 8 rfl Try.underlying27 info3 rfl (by decide) (by omega) u3 a2 a1 [.int .i64 a1] (fun _=>True) (fun _=>False) rfl rfl ?aP (fun _ hk=>hk.elim) ?aF ?aO ?aB ?aS ?aL ?_;(case aP=>exact rfl);(case aB=>exact (belowP HB));(case aF=>exact (fun _ _=>trivial));(case aO=>exact (Kd.R_q a5.out));(case aS=>exact (below_size (belowP HB)));(case aL=>have:=LMc5.out;omega);intro b4 w6 ho hb hg hat;rw [← b2.out] at ho;refine ap2 (hb) (ho) ?_;clear HB a5;intro HB b3;clear ho hb hg hat))
      go_roundg k1
      case measure=>have:=a4.out;omega
      case rel=>exact ⟨(b0),(wrap64 (a1 + 1)),tz3,H',⟨by have:=a4.out;omega⟩,⟨by refine Kd.R_q ?_;exact b3.out⟩,⟨by repeat (first|(with_reducible first|exact HB.out|apply below_alloc|apply pw_below_drewN|apply below_drew1)|exact HB.out)⟩⟩
     ·rw [if_neg c5] at H
      exact absurd H (by simp)
    ·replace c4:=Bool.eq_false_iff.mpr c4
     subst c4
     rw [if_neg (show ¬ (false=true) by decide)] at H
     have H':=Aside0.mk H
     clear H
     go_wp2_with (first|((with_reducible refine gate_callee (f:=46) rfl ?_);refine goesL_ (some 10) rfl rfl Try.func46 (by kernel_rfl) rfl #[.int .i64 a0,.int .i64 a1] rfl tz0 ?_;(with_reducible refine (nodeset_Has.calls a0 a1 false _ A3.out).mono ?_);rintro e w' ⟨rfl,⟨nd,rfl⟩⟩;refine ⟨_,rfl,?_⟩))
     go_roundg k1
     case measure=>have:=a4.out;omega
     case rel=>exact ⟨(a2),(wrap64 (a1 + 1)),tz3,H',⟨by have:=a4.out;omega⟩,⟨by refine Kd.R_q ?_;exact a5.out⟩,⟨by repeat (first|(with_reducible first|exact HB.out|apply below_alloc|apply pw_below_drewN|apply below_drew1)|exact HB.out)⟩⟩
   ·rw [if_neg c2] at H
    have b1:decide (a1 < 10)=false:=decide_eq_false c2
    clear c2
    obtain rfl:=Option.some.inj H
    go_wp2
    go_ret
    exact ⟨_,rE,by refine Kd.R_q ?_;exact a5.out,by repeat (first|(with_reducible first|exact HB.out|apply below_alloc|apply pw_below_drewN|apply below_drew1)|exact HB.out)⟩
def closure_unhappy.l0:Nat→Int→List Int→Int→Int→List (S87)→Option (Int × Bool)
 | 0,_,_,_,_,_=>none
 | k + 1,x1,x9,b8,b1,b9=>if b1 < b8 then (if 0≤b1 then (if b1 < (x9.length:Int) then ((closure_content.f k b9 (rd x9 b1) x1).bind fun b3=>(if b3=true then (closure_unhappy.l0 k x1 x9 b8 (wrap64 (b1 + 1)) b9) else (some (rd x9 b1,true)))) else (none)) else (none)) else (some (0,false))
def closure_unhappy.f (k:Nat) (a4:List (S87)) (a1:Int):Option (Int × Bool):=(nodeset_Nodes.f k a1).bind fun a2=>(closure_unhappy.l0 k a1 a2 (a2.length:Int) 0 a4)
theorem closure_unhappy.mono_l:∀ k,(∀ y0 y1 y2 y3 y4,LeO (closure_unhappy.l0 k y0 y1 y2 y3 y4) (closure_unhappy.l0 (k + 1) y0 y1 y2 y3 y4))
 | 0=>fun _ _ _ _ _ r h=>by simp [closure_unhappy.l0] at h
 | k + 1=>by
  have b6:=closure_unhappy.mono_l k
  ·intro y0 y1 y2 y3 y4
   unfold closure_unhappy.l0
   repeat' first
   | (with_reducible exact b6 _ _ _ _ _)
   | (with_reducible apply closure_content.mono)
   | (with_reducible apply nodeset_Nodes.mono)
   | (with_reducible exact LeO.refl _)
   | (with_reducible exact LeO.none _)
   | (with_reducible refine LeO.ite ?_ ?_)
   | (with_reducible refine LeO.bind ?_ (fun _=>?_))
theorem closure_unhappy.mono:∀ a0 a1 k,LeO (closure_unhappy.f k a0 a1) (closure_unhappy.f (k + 1) a0 a1):=by
 intro a0 a1 k
 have b6:=closure_unhappy.mono_l k
 unfold closure_unhappy.f
 repeat' first
   | (with_reducible exact b6 _ _ _ _ _)
   | (with_reducible apply closure_content.mono)
   | (with_reducible apply nodeset_Nodes.mono)
   | (with_reducible exact LeO.refl _)
   | (with_reducible exact LeO.none _)
   | (with_reducible refine LeO.ite ?_ ?_)
   | (with_reducible refine LeO.bind ?_ (fun _=>?_))
set_option maxHeartbeats 8000000 in
set_option maxRecDepth 100000 in
theorem closure_unhappy.calls (k:Nat) (a7:Option Addr) (a8:Nat) (a4:List (S87)) (a1:Int) (r1:Int) (r2:Bool) (w:World) (c0:Kd.C k87 w a7 a4.length a4) (c1:a4.length≤a8) (h:closure_unhappy.f k a4 a1=some (r1,r2)) :
  Calls Try.prog 72 #[.agg #[.slice a7 a4.length a8],.int .i64 a1] w fun e w'=>e = .returned (.tuple #[.int .i64 r1,.bool r2])∧Below w.heap.size w w':=by
 have hu53:=Try.underlying53
 have d0:=Aside0.mk c0
 have d1:=Aside0.mk c1
 clear c0 c1
 have HB:=Aside0.mk (Below.refl w.heap.size w)
 have H:((nodeset_Nodes.f k a1).bind fun a2=>(closure_unhappy.l0 k a1 a2 (a2.length:Int) 0 a4))=some (r1,r2):=h
 clear h
 replace H:=Option.bind_eq_some_iff.mp H
 obtain ⟨a2,d2,H⟩:=H
 replace H:(closure_unhappy.l0 k a1 a2 (a2.length:Int) 0 a4)=some (r1,r2):=H
 have A3:=Aside0.mk d2
 clear d2
 have H':=Aside0.mk H
 clear H
 go_enter Try.func72,Try.ntmps72
 go_wp2_with (first|((with_reducible refine gate_dst (N:=2) rfl ?_);refine box_event ?hg (N:=2) ?hd (cs:=#[.slice a7 a4.length a8]) (t:=53) ?hr ?_;(case hd=>rfl);(case hg=>rfl);(case hr=>first|(go_simp;done)|(go_simp;rfl));intro b2 hg w4 hbox hb;refine ap4 (below_step (belowP HB) hb) (hbox) ((by rw [hg];exact (below_size (belowP HB)):w.heap.size≤b2)) ((by rw [hg];exact (below_size (belowP HB)):w.heap.size≤b2)) ?_;clear HB;intro HB a5 GW407 b4;clear hb hbox hg)|((with_reducible refine gate_callee (f:=39) rfl ?_);refine goesL_ (some 9) rfl rfl Try.func39 (by kernel_rfl) rfl #[.int .i64 a1] rfl tz0 ?_;(with_reducible refine (nodeset_Nodes.calls k a1 a2 _ A3.out).mono ?_);rintro e w5 ⟨e5,rfl,d7,hb⟩;refine ⟨_,rfl,?_⟩;refine ap3 (Kd.R_lower d7 (below_size (belowP HB))) (blk_below (blkP a5) hb) (below_step (belowP HB) hb) ?_;clear a5 HB;intro d3 a5 HB;obtain ⟨d8,d9,e0⟩:=Kd.R_slice d3.out;subst e0))
 go_loopg [11] k (fun kq e1 w'=>∃ (a3:Int),e1 = .int .i64 a3∧Aside0 (closure_unhappy.l0 kq a1 a2 (a2.length:Int) a3 a4=some (r1,r2))∧Aside0 (kq≤k)∧Aside0 (Kd.R (Kd.int .i64) 3 w' w.heap.size (fun _=>True) (.slice d8 a2.length d9) a2)∧Aside0 (w'.heap[b2]? = some (.cells #[(.slice a7 a4.length a8)] 53 (0,0)))∧Aside0 (Below w.heap.size w w'))
 case atStart=>exact ⟨(0),tz3,H',⟨Nat.le_refl _⟩,⟨by refine Kd.R_q ?_;exact d3.out⟩,⟨by refine blkQ ?_;exact a5.out⟩,⟨by repeat (first|(with_reducible first|exact HB.out|apply below_alloc|apply pw_below_drewN|apply below_drew1|refine below_set ?_ b4.out)|exact HB.out)⟩⟩
 case round=>
  clear H'
  try clear a5
  try clear HB
  obtain ⟨a3,rfl,HA,d4,a6,a5,HB⟩:=hrel
  cases gk with
  | zero=>exact absurd HA.out (by simp [closure_unhappy.l0])
  | succ k1=>
   have H:=HA.out
   clear HA
   simp only [closure_unhappy.l0] at H
   by_cases c7:a3 < (a2.length:Int)
   ·rw [if_pos c7] at H
    have e2:decide (a3 < (a2.length:Int))=true:=decide_eq_true c7
    clear c7
    by_cases c8:0≤a3
    ·rw [if_pos c8] at H
     have e6:decide (0≤a3)=true:=decide_eq_true c8
     clear c8
     by_cases c9:a3 < (a2.length:Int)
     ·rw [if_pos c9] at H
      have e7:decide (a3 < (a2.length:Int))=true:=decide_eq_true c9
      clear c9
      replace H:=Option.bind_eq_some_iff.mp H
      obtain ⟨b3,d5,H⟩:=H
      replace H:(if b3=true then (closure_unhappy.l0 k1 a1 a2 (a2.length:Int) (wrap64 (a3 + 1)) a4) else (some (rd a2 a3,true)))=some (r1,r2):=H
      have d6:=Aside0.mk d5
      clear d5
      by_cases b5:b3=true
      ·subst b5
       rw [if_pos rfl] at H
       have H':=Aside0.mk H
       clear H
       have a9:0≤(a3:Int):=of_decide_eq_true tz2
       have b0:a3 < (a2.length:Int):=of_decide_eq_true tz2
       obtain ⟨e3,b7,e4⟩:=Kd.at_int (Kd.R_reads' a6.out).2.2 a3 a9 b0
       cases b7
       replace a9:=eq_true a9
       replace b0:=eq_true b0
       have e8:wr.cell? ⟨b2,0,none⟩=some (.slice a7 a4.length a8):=(blk_cell a5.out 0).trans rfl
       have e9:=blk_frozen a5.out 0
       go_wp2_with (first|((with_reducible refine gate_callee (f:=87) rfl ?_);refine goesL_ (some 18) rfl rfl Try.func87 (by kernel_rfl) rfl #[.agg #[.slice a7 a4.length a8],.int .i64 (rd a2 a3),.int .i64 a1] rfl tz0 ?_;(with_reducible refine (closure_content.calls k1 _ _ a4 (rd a2 a3) a1 true _ ?side1 ?side2 d6.out).mono ?_);(case side1=>exact Kd.C_q (Kd.C_below d0.out HB.out));(case side2=>exact d1.out);rintro e f0 ⟨rfl,hb⟩;refine ⟨_,rfl,?_⟩;refine ap3 (Kd.R_below (Kd.R_q a6.out) hb) (blk_below (blkP a5) hb) (below_step (belowP HB) hb) ?_;clear a6 a5 HB;intro a6 a5 HB))
       go_roundg k1
       case measure=>have:=d4.out;omega
       case rel=>exact ⟨(wrap64 (a3 + 1)),tz3,H',⟨by have:=d4.out;omega⟩,⟨by refine Kd.R_q ?_;exact a6.out⟩,⟨by refine blkQ ?_;exact a5.out⟩,⟨by repeat (first|(with_reducible first|exact HB.out|apply below_alloc|apply pw_below_drewN|apply below_drew1|refine below_set ?_ b4.out)|exact HB.out)⟩⟩
      ·replace b5:=Bool.eq_false_iff.mpr b5
       subst b5
       rw [if_neg (show ¬ (false=true) by decide)] at H
       simp only [Option.some.injEq,Prod.mk.injEq] at H
       obtain ⟨rfl,rfl⟩:=H
       have a9:0≤(a3:Int):=of_decide_eq_true tz2
       have b0:a3 < (a2.length:Int):=of_decide_eq_true tz2
       obtain ⟨e3,b7,e4⟩:=Kd.at_int (Kd.R_reads' a6.out).2.2 a3 a9 b0
       cases b7
       replace a9:=eq_true a9
       replace b0:=eq_true b0
       have f1:wr.cell? ⟨b2,0,none⟩=some (.slice a7 a4.length a8):=(blk_cell a5.out 0).trans rfl
       have f2:=blk_frozen a5.out 0
       go_wp2_with (first|((with_reducible refine gate_callee (f:=87) rfl ?_);refine goesL_ (some 18) rfl rfl Try.func87 (by kernel_rfl) rfl #[.agg #[.slice a7 a4.length a8],.int .i64 (rd a2 a3),.int .i64 a1] rfl tz0 ?_;(with_reducible refine (closure_content.calls k1 _ _ a4 (rd a2 a3) a1 false _ ?side1 ?side2 d6.out).mono ?_);(case side1=>exact Kd.C_q (Kd.C_below d0.out HB.out));(case side2=>exact d1.out);rintro e f3 ⟨rfl,hb⟩;refine ⟨_,rfl,?_⟩;refine ap3 (Kd.R_below (Kd.R_q a6.out) hb) (blk_below (blkP a5) hb) (below_step (belowP HB) hb) ?_;clear a6 a5 HB;intro a6 a5 HB))
       go_ret2
       exact ⟨rE,by repeat (first|(with_reducible first|exact HB.out|apply below_alloc|apply pw_below_drewN|apply below_drew1|refine below_set ?_ b4.out)|exact HB.out)⟩
     ·rw [if_neg c9] at H
      exact absurd H (by simp)
    ·rw [if_neg c8] at H
     exact absurd H (by simp)
   ·rw [if_neg c7] at H
    have e2:decide (a3 < (a2.length:Int))=false:=decide_eq_false c7
    clear c7
    simp only [Option.some.injEq,Prod.mk.injEq] at H
    obtain ⟨rfl,rfl⟩:=H
    go_wp2
    go_ret2
    exact ⟨rE,by repeat (first|(with_reducible first|exact HB.out|apply below_alloc|apply pw_below_drewN|apply below_drew1|refine below_set ?_ b4.out)|exact HB.out)⟩
def configuration_Declared.l0:Nat→Int→List (S87)→Int→Int→Option (Int)
 | 0,_,_,_,_=>none
 | k + 1,x3,x7,x8,x9=>if x9 < x8 then (if 0≤x9 then (if x9 < (x7.length:Int) then (if (rd_T87 x7 x9).f0=true then (if x9 < 10 then (configuration_Declared.l0 k (Go.bits .or .i64 x3 (shl .i64 1 x9)) x7 x8 (wrap64 (x9 + 1))) else (configuration_Declared.l0 k x3 x7 x8 (wrap64 (x9 + 1)))) else (configuration_Declared.l0 k x3 x7 x8 (wrap64 (x9 + 1)))) else (none)) else (none)) else (some x3)
def configuration_Declared.f (k:Nat) (a2:List (S87)):Option (Int):=configuration_Declared.l0 k 0 a2 (a2.length:Int) 0
theorem configuration_Declared.mono_l:∀ k,(∀ y0 y1 y2 y3,LeO (configuration_Declared.l0 k y0 y1 y2 y3) (configuration_Declared.l0 (k + 1) y0 y1 y2 y3))
 | 0=>fun _ _ _ _ r h=>by simp [configuration_Declared.l0] at h
 | k + 1=>by
  have d7:=configuration_Declared.mono_l k
  ·intro y0 y1 y2 y3
   unfold configuration_Declared.l0
   repeat' first
   | (with_reducible exact d7 _ _ _ _)
   | (with_reducible exact LeO.refl _)
   | (with_reducible exact LeO.none _)
   | (with_reducible refine LeO.ite ?_ ?_)
   | (with_reducible refine LeO.bind ?_ (fun _=>?_))
theorem configuration_Declared.mono:∀ a0 k,LeO (configuration_Declared.f k a0) (configuration_Declared.f (k + 1) a0):=by
 intro a0 k
 have d7:=configuration_Declared.mono_l k
 unfold configuration_Declared.f
 repeat' first
   | (with_reducible exact d7 _ _ _ _)
   | (with_reducible exact LeO.refl _)
   | (with_reducible exact LeO.none _)
   | (with_reducible refine LeO.ite ?_ ?_)
   | (with_reducible refine LeO.bind ?_ (fun _=>?_))
set_option maxHeartbeats 8000000 in
set_option maxRecDepth 100000 in
theorem configuration_Declared.calls (k:Nat) (c0:Option Addr) (c1:Nat) (a2:List (S87)) (r:Int) (w:World) (d9:Kd.C k87 w c0 a2.length a2) (e0:a2.length≤c1) (h:configuration_Declared.f k a2=some r) :
  Calls Try.prog 69 #[.agg #[.slice c0 a2.length c1]] w fun e w'=>e = .returned (.int .i64 r)∧Below w.heap.size w w':=by
 have hu53:=Try.underlying53
 have hu87:=Try.underlying87
 have d8:=Aside0.mk d9
 have f5:=Aside0.mk e0
 clear d9 e0
 have HB:=Aside0.mk (Below.refl w.heap.size w)
 have H:(configuration_Declared.l0 k 0 a2 (a2.length:Int) 0)=some r:=h
 clear h
 have H':=Aside0.mk H
 clear H
 go_enter Try.func69,Try.ntmps69
 go_wp2_with (first|((with_reducible refine gate_dst (N:=1) rfl ?_);refine box_event ?hg (N:=1) ?hd (cs:=#[.slice c0 a2.length c1]) (t:=53) ?hr ?_;(case hd=>rfl);(case hg=>rfl);(case hr=>first|(go_simp;done)|(go_simp;rfl));intro b3 hg w2 hbox hb;refine ap4 (below_step (belowP HB) hb) (hbox) ((by rw [hg];exact (below_size (belowP HB)):w.heap.size≤b3)) ((by rw [hg];exact (below_size (belowP HB)):w.heap.size≤b3)) ?_;clear HB;intro HB a5 GW394 d0;clear hb hbox hg;have f1:w2.cell? ⟨b3,0,none⟩=some (.slice c0 a2.length c1):=(blk_cell a5.out 0).trans rfl;have f2:=blk_frozen a5.out 0))
 go_loopg [3,9] k (fun kq v3 v9 w'=>∃ (b4:Int) (a1:Int),v3 = .int .i64 b4∧v9 = .int .i64 a1∧Aside0 (configuration_Declared.l0 kq b4 a2 (a2.length:Int) a1=some r)∧Aside0 (kq≤k)∧Aside0 (w'.heap[b3]? = some (.cells #[(.slice c0 a2.length c1)] 53 (0,0)))∧Aside0 (Below w.heap.size w w'))
 case atStart=>exact ⟨(0),(0),tz3,tz3,H',⟨Nat.le_refl _⟩,⟨by refine blkQ ?_;exact a5.out⟩,⟨by repeat (first|(with_reducible first|exact HB.out|apply below_alloc|apply pw_below_drewN|apply below_drew1|refine below_set ?_ d0.out)|exact HB.out)⟩⟩
 case round=>
  clear H'
  try clear f1
  try clear f2
  try clear a5
  try clear HB
  obtain ⟨b4,a1,rfl,rfl,HA,b9,a5,HB⟩:=hrel
  cases gk with
  | zero=>exact absurd HA.out (by simp [configuration_Declared.l0])
  | succ k1=>
   have H:=HA.out
   clear HA
   simp only [configuration_Declared.l0] at H
   by_cases c4:a1 < (a2.length:Int)
   ·rw [if_pos c4] at H
    have f3:decide (a1 < (a2.length:Int))=true:=decide_eq_true c4
    clear c4
    by_cases c5:0≤a1
    ·rw [if_pos c5] at H
     have f6:decide (0≤a1)=true:=decide_eq_true c5
     clear c5
     by_cases c6:a1 < (a2.length:Int)
     ·rw [if_pos c6] at H
      have f7:decide (a1 < (a2.length:Int))=true:=decide_eq_true c6
      clear c6
      obtain ⟨bq7,hbq7⟩:∃ b_:Bool,b_=((rd_T87 a2 a1).f0):=⟨_,rfl⟩
      replace H:(if bq7=true then (if a1 < 10 then (configuration_Declared.l0 k1 (Go.bits .or .i64 b4 (shl .i64 1 a1)) a2 (a2.length:Int) (wrap64 (a1 + 1))) else (configuration_Declared.l0 k1 b4 a2 (a2.length:Int) (wrap64 (a1 + 1)))) else (configuration_Declared.l0 k1 b4 a2 (a2.length:Int) (wrap64 (a1 + 1))))=some r:=by rw [← hbq7] at H;exact H
      have Nbq7:=Aside0.mk hbq7
      clear hbq7
      by_cases c8:bq7=true
      ·subst c8
       rw [if_pos rfl] at H
       by_cases c9:a1 < 10
       ·rw [if_pos c9] at H
        have f4:decide (a1 < 10)=true:=decide_eq_true c9
        clear c9
        have f8:=eq_true (of_decide_eq_true tz2:0≤a1)
        obtain ⟨ji11,hji11⟩:∃ j_:Int,(shl .i64 1 a1)=j_:=⟨_,rfl⟩
        replace H:(configuration_Declared.l0 k1 (Go.bits .or .i64 b4 (ji11)) a2 (a2.length:Int) (wrap64 (a1 + 1)))=some r:=by first|(rw [hji11] at H;exact H)|(simp only [hji11] at H ⊢;exact H)
        have hji11_:(IntKind.i64.wrap (1 * 2 ^ min a1.toNat 64))=ji11:=hji11
        have hji11z:a1≤64→(IntKind.i64.wrap (1 * 2 ^ a1.toNat))=ji11:=shl_small hji11
        have hji11u:(IntKind.i64.wrap (2 ^ min a1.toNat 64))=ji11:=by have h_:=hji11_;rw [Int.one_mul] at h_;exact h_
        have hji11v:a1≤64→(IntKind.i64.wrap (2 ^ a1.toNat))=ji11:=fun hle_=>by have h_:=hji11z hle_;rw [Int.one_mul] at h_;exact h_
        have hji11y:(wrap64 (1 * 2 ^ min a1.toNat 64))=ji11:=(i64_w _).symm.trans hji11_
        have hji11x:a1≤64→(wrap64 (1 * 2 ^ a1.toNat))=ji11:=fun h_=>(i64_w _).symm.trans (hji11z h_)
        have H':=Aside0.mk H
        clear H
        have a8:0≤(a1:Int):=of_decide_eq_true tz2
        have a9:a1 < (a2.length:Int):=of_decide_eq_true tz2
        obtain ⟨e1,e2,e3,e4,e5,d1,a7,b0,b1,b2,b5,b6,b7,b8⟩:=at_T87 d8.out a1 a8 a9
        (try rw [← Nbq7.out] at a7)
        cases d1
        replace a7:=(HB.out.cell (World.block_lt_of_cell? w _ a7)).trans a7
        replace b0:=(HB.out.cell (World.block_lt_of_cell? w _ b0)).trans b0
        replace b1:=(HB.out.cell (World.block_lt_of_cell? w _ b1)).trans b1
        replace b2:=(HB.out.cell (World.block_lt_of_cell? w _ b2)).trans b2
        have e6:=Aside0.mk b6
        have e7:=Aside0.mk b5
        clear b6 b5
        have e8:=Aside0.mk b8
        have e9:=Aside0.mk b7
        clear b8 b7
        replace a8:=eq_true a8
        replace a9:=eq_true a9
        go_wp2_with (first|((with_reducible refine gate_dst (N:=5) rfl ?_);refine box_event ?hg (N:=5) ?hd (cs:=#[.bool false,.int .i64 0,.slice none 0 0,.slice none 0 0]) (t:=87) ?hr ?_;(case hd=>rfl);(case hg=>rfl);(case hr=>first|(go_simp;done)|(go_simp;rfl));intro a3 hg d4 hbox hb;refine ap7 (blk_below (blkP a5) hb) (below_step (belowP HB) hb) (hbox) ((by rw [hg];exact (below_size (belowP HB)):w.heap.size≤a3)) ((by rw [hg];exact (below_size (belowP HB)):w.heap.size≤a3)) ((by rw [hg];exact Nat.ne_of_lt (blk_lt (blkP a5)):b3≠a3)) ((by rw [hg];exact Nat.ne_of_gt (blk_lt (blkP a5)):a3≠b3)) ?_;clear a5 HB;intro a5 HB a4 GW396 d2 a6 d3;clear hb hbox hg;have f9:=d3.out;have g0:=a6.out;have g1:d4.cell? ⟨a3,0,none⟩=some (.bool false):=(blk_cell a4.out 0).trans rfl;have g2:d4.cell? ⟨a3,1,none⟩=some (.int .i64 0):=(blk_cell a4.out 1).trans rfl;have g3:d4.cell? ⟨a3,2,none⟩=some (.slice none 0 0):=(blk_cell a4.out 2).trans rfl;have g4:d4.cell? ⟨a3,3,none⟩=some (.slice none 0 0):=(blk_cell a4.out 3).trans rfl;have g5:=blk_frozen a4.out 0;have g6:=blk_frozen a4.out 1;have g7:=blk_frozen a4.out 2;have g8:=blk_frozen a4.out 3))
        go_roundg k1
        case measure=>have:=b9.out;omega
        case rel=>exact ⟨(Go.bits .or .i64 b4 (ji11)),(wrap64 (a1 + 1)),(by first|rfl|(simp;done)|(simp only [← hji11] <;> (first|rfl|simp))|(simp [*];done)),tz3,H',⟨by have:=b9.out;omega⟩,⟨by refine blkQ ?_;refine blk_far ?_ a6.out _;refine blkQ ?_;refine blk_far ?_ a6.out _;refine blkQ ?_;refine blk_far ?_ a6.out _;refine blkQ ?_;refine blk_far ?_ a6.out _;refine blkQ ?_;exact a5.out⟩,⟨by repeat (first|(with_reducible first|exact HB.out|apply below_alloc|apply pw_below_drewN|apply below_drew1|refine below_set ?_ d0.out|refine below_set ?_ d2.out)|exact HB.out)⟩⟩
       ·rw [if_neg c9] at H
        have f4:decide (a1 < 10)=false:=decide_eq_false c9
        clear c9
        have H':=Aside0.mk H
        clear H
        have a8:0≤(a1:Int):=of_decide_eq_true tz2
        have a9:a1 < (a2.length:Int):=of_decide_eq_true tz2
        obtain ⟨e1,e2,e3,e4,e5,d1,a7,b0,b1,b2,b5,b6,b7,b8⟩:=at_T87 d8.out a1 a8 a9
        (try rw [← Nbq7.out] at a7)
        cases d1
        replace a7:=(HB.out.cell (World.block_lt_of_cell? w _ a7)).trans a7
        replace b0:=(HB.out.cell (World.block_lt_of_cell? w _ b0)).trans b0
        replace b1:=(HB.out.cell (World.block_lt_of_cell? w _ b1)).trans b1
        replace b2:=(HB.out.cell (World.block_lt_of_cell? w _ b2)).trans b2
        have e6:=Aside0.mk b6
        have e7:=Aside0.mk b5
        clear b6 b5
        have e8:=Aside0.mk b8
        have e9:=Aside0.mk b7
        clear b8 b7
        replace a8:=eq_true a8
        replace a9:=eq_true a9
        go_wp2_with (first|((with_reducible refine gate_dst (N:=5) rfl ?_);refine box_event ?hg (N:=5) ?hd (cs:=#[.bool false,.int .i64 0,.slice none 0 0,.slice none 0 0]) (t:=87) ?hr ?_;(case hd=>rfl);(case hg=>rfl);(case hr=>first|(go_simp;done)|(go_simp;rfl));intro a3 hg d5 hbox hb;refine ap7 (blk_below (blkP a5) hb) (below_step (belowP HB) hb) (hbox) ((by rw [hg];exact (below_size (belowP HB)):w.heap.size≤a3)) ((by rw [hg];exact (below_size (belowP HB)):w.heap.size≤a3)) ((by rw [hg];exact Nat.ne_of_lt (blk_lt (blkP a5)):b3≠a3)) ((by rw [hg];exact Nat.ne_of_gt (blk_lt (blkP a5)):a3≠b3)) ?_;clear a5 HB;intro a5 HB a4 GW396 d2 a6 d3;clear hb hbox hg;have g9:=d3.out;have h0:=a6.out;have h1:d5.cell? ⟨a3,0,none⟩=some (.bool false):=(blk_cell a4.out 0).trans rfl;have h2:d5.cell? ⟨a3,1,none⟩=some (.int .i64 0):=(blk_cell a4.out 1).trans rfl;have h3:d5.cell? ⟨a3,2,none⟩=some (.slice none 0 0):=(blk_cell a4.out 2).trans rfl;have h4:d5.cell? ⟨a3,3,none⟩=some (.slice none 0 0):=(blk_cell a4.out 3).trans rfl;have h5:=blk_frozen a4.out 0;have h6:=blk_frozen a4.out 1;have h7:=blk_frozen a4.out 2;have h8:=blk_frozen a4.out 3))
        go_roundg k1
        case measure=>have:=b9.out;omega
        case rel=>exact ⟨(b4),(wrap64 (a1 + 1)),tz3,tz3,H',⟨by have:=b9.out;omega⟩,⟨by refine blkQ ?_;refine blk_far ?_ a6.out _;refine blkQ ?_;refine blk_far ?_ a6.out _;refine blkQ ?_;refine blk_far ?_ a6.out _;refine blkQ ?_;refine blk_far ?_ a6.out _;refine blkQ ?_;exact a5.out⟩,⟨by repeat (first|(with_reducible first|exact HB.out|apply below_alloc|apply pw_below_drewN|apply below_drew1|refine below_set ?_ d0.out|refine below_set ?_ d2.out)|exact HB.out)⟩⟩
      ·replace c8:=Bool.eq_false_iff.mpr c8
       subst c8
       rw [if_neg (show ¬ (false=true) by decide)] at H
       have H':=Aside0.mk H
       clear H
       have a8:0≤(a1:Int):=of_decide_eq_true tz2
       have a9:a1 < (a2.length:Int):=of_decide_eq_true tz2
       obtain ⟨e1,e2,e3,e4,e5,d1,a7,b0,b1,b2,b5,b6,b7,b8⟩:=at_T87 d8.out a1 a8 a9
       (try rw [← Nbq7.out] at a7)
       cases d1
       replace a7:=(HB.out.cell (World.block_lt_of_cell? w _ a7)).trans a7
       replace b0:=(HB.out.cell (World.block_lt_of_cell? w _ b0)).trans b0
       replace b1:=(HB.out.cell (World.block_lt_of_cell? w _ b1)).trans b1
       replace b2:=(HB.out.cell (World.block_lt_of_cell? w _ b2)).trans b2
       have e6:=Aside0.mk b6
       have e7:=Aside0.mk b5
       clear b6 b5
       have e8:=Aside0.mk b8
       have e9:=Aside0.mk b7
       clear b8 b7
       replace a8:=eq_true a8
       replace a9:=eq_true a9
       go_wp2_with (first|((with_reducible refine gate_dst (N:=5) rfl ?_);refine box_event ?hg (N:=5) ?hd (cs:=#[.bool false,.int .i64 0,.slice none 0 0,.slice none 0 0]) (t:=87) ?hr ?_;(case hd=>rfl);(case hg=>rfl);(case hr=>first|(go_simp;done)|(go_simp;rfl));intro a3 hg d6 hbox hb;refine ap7 (blk_below (blkP a5) hb) (below_step (belowP HB) hb) (hbox) ((by rw [hg];exact (below_size (belowP HB)):w.heap.size≤a3)) ((by rw [hg];exact (below_size (belowP HB)):w.heap.size≤a3)) ((by rw [hg];exact Nat.ne_of_lt (blk_lt (blkP a5)):b3≠a3)) ((by rw [hg];exact Nat.ne_of_gt (blk_lt (blkP a5)):a3≠b3)) ?_;clear a5 HB;intro a5 HB a4 GW396 d2 a6 d3;clear hb hbox hg;have h9:=d3.out;have i0:=a6.out;have i1:d6.cell? ⟨a3,0,none⟩=some (.bool false):=(blk_cell a4.out 0).trans rfl;have i2:d6.cell? ⟨a3,1,none⟩=some (.int .i64 0):=(blk_cell a4.out 1).trans rfl;have i3:d6.cell? ⟨a3,2,none⟩=some (.slice none 0 0):=(blk_cell a4.out 2).trans rfl;have i4:d6.cell? ⟨a3,3,none⟩=some (.slice none 0 0):=(blk_cell a4.out 3).trans rfl;have i5:=blk_frozen a4.out 0;have i6:=blk_frozen a4.out 1;have i7:=blk_frozen a4.out 2;have i8:=blk_frozen a4.out 3))
       go_roundg k1
       case measure=>have:=b9.out;omega
       case rel=>exact ⟨(b4),(wrap64 (a1 + 1)),tz3,tz3,H',⟨by have:=b9.out;omega⟩,⟨by refine blkQ ?_;refine blk_far ?_ a6.out _;refine blkQ ?_;refine blk_far ?_ a6.out _;refine blkQ ?_;refine blk_far ?_ a6.out _;refine blkQ ?_;refine blk_far ?_ a6.out _;refine blkQ ?_;exact a5.out⟩,⟨by repeat (first|(with_reducible first|exact HB.out|apply below_alloc|apply pw_below_drewN|apply below_drew1|refine below_set ?_ d0.out|refine below_set ?_ d2.out)|exact HB.out)⟩⟩
     ·rw [if_neg c6] at H
      exact absurd H (by simp)
    ·rw [if_neg c5] at H
     exact absurd H (by simp)
   ·rw [if_neg c4] at H
    have f3:decide (a1 < (a2.length:Int))=false:=decide_eq_false c4
    clear c4
    obtain rfl:=Option.some.inj H
    go_wp2
    go_ret
    exact ⟨rE,by repeat (first|(with_reducible first|exact HB.out|apply below_alloc|apply pw_below_drewN|apply below_drew1|refine below_set ?_ d0.out)|exact HB.out)⟩
def closure_eliminate.l0:Nat→Int→List Int→List (S87)→Option (Int × List Int)
 | 0,_,_,_=>none
 | k + 1,x1,x6,d0=>(closure_unhappy.f k d0 x1).bind fun b5=>(if b5.2=true then (if x6.length < 17592186044416 then (if 0≤b5.1 then (closure_eliminate.l0 k (Go.bits .andNot .i64 x1 (shl .i64 1 b5.1)) (x6 ++ [b5.1]) d0) else (none)) else (none)) else (some (x1,x6)))
def closure_eliminate.f (k:Nat) (a2:List (S87)) (a1:Int):Option (Int × List Int):=(nodeset_Valid.f a1).bind fun b2=>(if b2=true then ((configuration_Declared.f k a2).bind fun a9=>(closure_eliminate.l0 k (Go.bits .and .i64 a1 a9) ([]:List Int) a2)) else (some (0,([]:List Int))))
theorem closure_eliminate.mono_l:∀ k,(∀ y0 y1 y2,LeO (closure_eliminate.l0 k y0 y1 y2) (closure_eliminate.l0 (k + 1) y0 y1 y2))
 | 0=>fun _ _ _ r h=>by simp [closure_eliminate.l0] at h
 | k + 1=>by
  have b7:=closure_eliminate.mono_l k
  ·intro y0 y1 y2
   unfold closure_eliminate.l0
   repeat' first
   | (with_reducible exact b7 _ _ _)
   | (with_reducible apply closure_unhappy.mono)
   | (with_reducible apply configuration_Declared.mono)
   | (with_reducible exact LeO.refl _)
   | (with_reducible exact LeO.none _)
   | (with_reducible refine LeO.ite ?_ ?_)
   | (with_reducible refine LeO.bind ?_ (fun _=>?_))
theorem closure_eliminate.mono:∀ a0 a1 k,LeO (closure_eliminate.f k a0 a1) (closure_eliminate.f (k + 1) a0 a1):=by
 intro a0 a1 k
 have b7:=closure_eliminate.mono_l k
 unfold closure_eliminate.f
 repeat' first
   | (with_reducible exact b7 _ _ _)
   | (with_reducible apply closure_unhappy.mono)
   | (with_reducible apply configuration_Declared.mono)
   | (with_reducible exact LeO.refl _)
   | (with_reducible exact LeO.none _)
   | (with_reducible refine LeO.ite ?_ ?_)
   | (with_reducible refine LeO.bind ?_ (fun _=>?_))
set_option maxHeartbeats 8000000 in
set_option maxRecDepth 100000 in
theorem closure_eliminate.calls (k:Nat) (a6:Option Addr) (a7:Nat) (a2:List (S87)) (a1:Int) (r1:Int) (r2:List Int) (w:World) (d1:Kd.C k87 w a6 a2.length a2) (d2:a2.length≤a7) (h:closure_eliminate.f k a2 a1=some (r1,r2)) :
  Calls Try.prog 61 #[.agg #[.slice a6 a2.length a7],.int .i64 a1] w fun e w'=>∃ d3:Value,e = .returned (.tuple #[.int .i64 r1,d3])∧Kd.R (Kd.int .i64) 3 w' w.heap.size (fun _=>True) d3 r2∧Below w.heap.size w w':=by
 have hu53:=Try.underlying53
 have b8:=Aside0.mk d1
 have b9:=Aside0.mk d2
 clear d1 d2
 have HB:=Aside0.mk (Below.refl w.heap.size w)
 have H:((nodeset_Valid.f a1).bind fun b2=>(if b2=true then ((configuration_Declared.f k a2).bind fun a9=>(closure_eliminate.l0 k (Go.bits .and .i64 a1 a9) ([]:List Int) a2)) else (some (0,([]:List Int)))))=some (r1,r2):=h
 clear h
 replace H:=Option.bind_eq_some_iff.mp H
 obtain ⟨b2,d4,H⟩:=H
 replace H:(if b2=true then ((configuration_Declared.f k a2).bind fun a9=>(closure_eliminate.l0 k (Go.bits .and .i64 a1 a9) ([]:List Int) a2)) else (some (0,([]:List Int))))=some (r1,r2):=H
 have A3:=Aside0.mk d4
 clear d4
 by_cases c4:b2=true
 ·subst c4
  rw [if_pos rfl] at H
  replace H:=Option.bind_eq_some_iff.mp H
  obtain ⟨a9,d5,H⟩:=H
  replace H:(closure_eliminate.l0 k (Go.bits .and .i64 a1 a9) ([]:List Int) a2)=some (r1,r2):=H
  have A5:=Aside0.mk d5
  clear d5
  have H':=Aside0.mk H
  clear H
  go_enter Try.func61,Try.ntmps61
  go_wp2_with (first|((with_reducible refine gate_dst (N:=2) rfl ?_);refine box_event ?hg (N:=2) ?hd (cs:=#[.slice a6 a2.length a7]) (t:=53) ?hr ?_;(case hd=>rfl);(case hg=>rfl);(case hr=>first|(go_simp;done)|(go_simp;rfl));intro b0 hg w6 hbox hb;refine ap4 (below_step (belowP HB) hb) (hbox) ((by rw [hg];exact (below_size (belowP HB)):w.heap.size≤b0)) ((by rw [hg];exact (below_size (belowP HB)):w.heap.size≤b0)) ?_;clear HB;intro HB a3 GW413 b3;clear hb hbox hg)|((with_reducible refine gate_callee (f:=57) rfl ?_);refine goesL_ (some 10) rfl rfl Try.func57 (by kernel_rfl) rfl #[.int .i64 a1] rfl tz0 ?_;(with_reducible refine (nodeset_Valid.calls a1 true _ A3.out).mono ?_);rintro e w' ⟨rfl,⟨nd,rfl⟩⟩;refine ⟨_,rfl,?_⟩;have d9:w6.cell? ⟨b0,0,none⟩=some (.slice a6 a2.length a7):=(blk_cell a3.out 0).trans rfl;have e0:=blk_frozen a3.out 0)|((with_reducible refine gate_callee (f:=69) rfl ?_);refine goesL_ (some 14) rfl rfl Try.func69 (by kernel_rfl) rfl #[.agg #[.slice a6 a2.length a7]] rfl tz0 ?_;(with_reducible refine (configuration_Declared.calls k _ _ a2 a9 _ ?side1 ?side2 A5.out).mono ?_);(case side1=>exact (Kd.C_below b8.out (belowP HB)));(case side2=>exact b9.out);rintro e w8 ⟨rfl,hb⟩;refine ⟨_,rfl,?_⟩;refine ap2 (blk_below (blkP a3) hb) (below_step (belowP HB) hb) ?_;clear a3 HB;intro a3 HB))
  go_loopg [1,6] k (fun kq v1 v6 w'=>∃ (a5:Int) (b1:List Int),v1 = .int .i64 a5∧Aside0 (closure_eliminate.l0 kq a5 b1 a2=some (r1,r2))∧Aside0 (kq≤k)∧Aside0 (Kd.R (Kd.int .i64) 3 w' w.heap.size (fun _=>True) v6 b1)∧Aside0 (w'.heap[b0]? = some (.cells #[(.slice a6 a2.length a7)] 53 (0,0)))∧Aside0 (Below w.heap.size w w'))
  case atStart=>exact ⟨(Go.bits .and .i64 a1 a9),(([]:List Int)),tz3,H',⟨Nat.le_refl _⟩,⟨by first|exact Kd.R_nil _ _ _ _ _|exact Kd.N_nil _ _ _ _ _|exact Kd.V_nil _ _ _ _ _|exact Kd.Q_nil _ _ _ _ _|exact Kd.S_nil _ _ _ _ _⟩,⟨by refine blkQ ?_;exact a3.out⟩,⟨by repeat (first|(with_reducible first|exact HB.out|apply below_alloc|apply pw_below_drewN|apply below_drew1|refine below_set ?_ b3.out)|exact HB.out)⟩⟩
  case round=>
   clear H'
   try clear c4
   try clear d9
   try clear e0
   try clear a3
   try clear HB
   obtain ⟨a5,b1,rfl,HA,d6,a8,a3,HB⟩:=hrel
   cases gk with
   | zero=>exact absurd HA.out (by simp [closure_eliminate.l0])
   | succ k1=>
    have H:=HA.out
    clear HA
    simp only [closure_eliminate.l0] at H
    replace H:=Option.bind_eq_some_iff.mp H
    obtain ⟨⟨a4,d7⟩,d8,H⟩:=H
    replace H:(if d7=true then (if b1.length < 17592186044416 then (if 0≤a4 then (closure_eliminate.l0 k1 (Go.bits .andNot .i64 a5 (shl .i64 1 a4)) (b1 ++ [a4]) a2) else (none)) else (none)) else (some (a5,b1)))=some (r1,r2):=H
    have A9:=Aside0.mk d8
    clear d8
    by_cases c10:d7=true
    ·subst c10
     rw [if_pos rfl] at H
     by_cases b6:b1.length < 17592186044416
     ·rw [if_pos b6] at H
      have LMc11:=Aside0.mk b6
      clear b6
      obtain ⟨c0,c1⟩:∃ y_:List Int,y_=(b1 ++ [a4]):=⟨_,rfl⟩
      replace H:(if 0≤a4 then (closure_eliminate.l0 k1 (Go.bits .andNot .i64 a5 (shl .i64 1 a4)) c0 a2) else (none))=some (r1,r2):=rH c1 H
      have e1:=Aside0.mk c1
      clear c1
      by_cases b4:0≤a4
      ·rw [if_pos b4] at H
       have e3:=eq_true b4
       have e4:decide (0≤a4)=true:=decide_eq_true b4
       clear b4
       obtain ⟨ji13,hji13⟩:∃ j_:Int,(shl .i64 1 a4)=j_:=⟨_,rfl⟩
       replace H:(closure_eliminate.l0 k1 (Go.bits .andNot .i64 a5 (ji13)) c0 a2)=some (r1,r2):=by first|(rw [hji13] at H;exact H)|(simp only [hji13] at H ⊢;exact H)
       (try rw [hji13] at A9)
       have hji13_:(IntKind.i64.wrap (1 * 2 ^ min a4.toNat 64))=ji13:=hji13
       have hji13z:a4≤64→(IntKind.i64.wrap (1 * 2 ^ a4.toNat))=ji13:=shl_small hji13
       have hji13u:(IntKind.i64.wrap (2 ^ min a4.toNat 64))=ji13:=by have h_:=hji13_;rw [Int.one_mul] at h_;exact h_
       have hji13v:a4≤64→(IntKind.i64.wrap (2 ^ a4.toNat))=ji13:=fun hle_=>by have h_:=hji13z hle_;rw [Int.one_mul] at h_;exact h_
       have hji13y:(wrap64 (1 * 2 ^ min a4.toNat 64))=ji13:=(i64_w _).symm.trans hji13_
       have hji13x:a4≤64→(wrap64 (1 * 2 ^ a4.toNat))=ji13:=fun h_=>(i64_w _).symm.trans (hji13z h_)
       have H':=Aside0.mk H
       clear H
       have e5:wr.cell? ⟨b0,0,none⟩=some (.slice a6 a2.length a7):=(blk_cell a3.out 0).trans rfl
       have e6:=blk_frozen a3.out 0
       go_wp2_with (first|((with_reducible refine gate_callee (f:=72) rfl ?_);refine goesL_ (some 19) rfl rfl Try.func72 (by kernel_rfl) rfl #[.agg #[.slice a6 a2.length a7],.int .i64 a5] rfl tz0 ?_;(with_reducible refine (closure_unhappy.calls k1 _ _ a2 a5 a4 true _ ?side1 ?side2 A9.out).mono ?_);(case side1=>exact Kd.C_q (Kd.C_below b8.out HB.out));(case side2=>exact b9.out);rintro e e7 ⟨rfl,hb⟩;refine ⟨_,rfl,?_⟩;refine ap3 (Kd.R_below (Kd.R_q a8.out) hb) (blk_below (blkP a3) hb) (below_step (belowP HB) hb) ?_;clear a8 a3 HB;intro a8 a3 HB)|((with_reducible refine gate_builtin (b:=.append) (xs:=#[.tmp 26,.tmp 28]) rfl ?_);at_builtin;refine Kd.R_append (Kd.int .i64) (w0:=w) w.heap.size rfl (.tmp 26) (.tmp 28) 27 3 (.int .i64 0) 8 rfl Try.underlying27 info3 rfl (by decide) (by omega) u6 b1 a4 [.int .i64 a4] (fun _=>True) (fun _=>False) rfl rfl ?aP (fun _ hk=>hk.elim) ?aF ?aO ?aB ?aS ?aL ?_;(case aP=>exact rfl);(case aB=>exact (belowP HB));(case aF=>exact (fun _ _=>trivial));(case aO=>exact (Kd.R_q a8.out));(case aS=>exact (below_size (belowP HB)));(case aL=>have:=LMc11.out;omega);intro e8 e9 ho hb hg hat;rw [← e1.out] at ho;refine ap3 (blk_grown (blkP a3) hg (Kd.R_ne a8.out a3.out (by decide))) (hb) (ho) ?_;clear a3 HB a8;intro a3 HB e2;clear ho hb hg hat))
       go_roundg k1
       case measure=>have:=d6.out;omega
       case rel=>exact ⟨(Go.bits .andNot .i64 a5 (ji13)),(c0),(by first|rfl|(simp;done)|(simp only [← hji13] <;> (first|rfl|simp))|(simp [*];done)),H',⟨by have:=d6.out;omega⟩,⟨by refine Kd.R_q ?_;exact e2.out⟩,⟨by refine blkQ ?_;exact a3.out⟩,⟨by repeat (first|(with_reducible first|exact HB.out|apply below_alloc|apply pw_below_drewN|apply below_drew1|refine below_set ?_ b3.out)|exact HB.out)⟩⟩
      ·rw [if_neg b4] at H
       exact absurd H (by simp)
     ·rw [if_neg b6] at H
      exact absurd H (by simp)
    ·replace c10:=Bool.eq_false_iff.mpr c10
     subst c10
     rw [if_neg (show ¬ (false=true) by decide)] at H
     simp only [Option.some.injEq,Prod.mk.injEq] at H
     obtain ⟨rfl,rfl⟩:=H
     have f0:wr.cell? ⟨b0,0,none⟩=some (.slice a6 a2.length a7):=(blk_cell a3.out 0).trans rfl
     have f1:=blk_frozen a3.out 0
     go_wp2_with (first|((with_reducible refine gate_callee (f:=72) rfl ?_);refine goesL_ (some 19) rfl rfl Try.func72 (by kernel_rfl) rfl #[.agg #[.slice a6 a2.length a7],.int .i64 a5] rfl tz0 ?_;(with_reducible refine (closure_unhappy.calls k1 _ _ a2 a5 a4 false _ ?side1 ?side2 A9.out).mono ?_);(case side1=>exact Kd.C_q (Kd.C_below b8.out HB.out));(case side2=>exact b9.out);rintro e f2 ⟨rfl,hb⟩;refine ⟨_,rfl,?_⟩;refine ap3 (Kd.R_below (Kd.R_q a8.out) hb) (blk_below (blkP a3) hb) (below_step (belowP HB) hb) ?_;clear a8 a3 HB;intro a8 a3 HB))
     go_ret2
     exact ⟨_,rE,by refine Kd.R_q ?_;exact a8.out,by repeat (first|(with_reducible first|exact HB.out|apply below_alloc|apply pw_below_drewN|apply below_drew1|refine below_set ?_ b3.out)|exact HB.out)⟩
 ·replace c4:=Bool.eq_false_iff.mpr c4
  subst c4
  rw [if_neg (show ¬ (false=true) by decide)] at H
  simp only [Option.some.injEq,Prod.mk.injEq] at H
  obtain ⟨rfl,rfl⟩:=H
  go_enter Try.func61,Try.ntmps61
  go_wp2_with (first|((with_reducible refine gate_dst (N:=2) rfl ?_);refine box_event ?hg (N:=2) ?hd (cs:=#[.slice a6 a2.length a7]) (t:=53) ?hr ?_;(case hd=>rfl);(case hg=>rfl);(case hr=>first|(go_simp;done)|(go_simp;rfl));intro b0 hg f3 hbox hb;refine ap4 (below_step (belowP HB) hb) (hbox) ((by rw [hg];exact (below_size (belowP HB)):w.heap.size≤b0)) ((by rw [hg];exact (below_size (belowP HB)):w.heap.size≤b0)) ?_;clear HB;intro HB a3 GW413 b3;clear hb hbox hg)|((with_reducible refine gate_callee (f:=57) rfl ?_);refine goesL_ (some 10) rfl rfl Try.func57 (by kernel_rfl) rfl #[.int .i64 a1] rfl tz0 ?_;(with_reducible refine (nodeset_Valid.calls a1 false _ A3.out).mono ?_);rintro e w' ⟨rfl,⟨nd,rfl⟩⟩;refine ⟨_,rfl,?_⟩))
  go_ret2
  exact ⟨_,rE,by first|exact Kd.R_nil _ _ _ _ _|exact Kd.N_nil _ _ _ _ _|exact Kd.V_nil _ _ _ _ _|exact Kd.Q_nil _ _ _ _ _|exact Kd.S_nil _ _ _ _ _,by repeat (first|(with_reducible first|exact HB.out|apply below_alloc|apply pw_below_drewN|apply below_drew1|refine below_set ?_ b3.out)|exact HB.out)⟩
def closure_Greatest.f (k:Nat) (a2:List (S87)) (a1:Int):Option (Int):=(closure_eliminate.f k a2 a1).bind fun a6=>(some a6.1)
theorem closure_Greatest.mono:∀ a0 a1 k,LeO (closure_Greatest.f k a0 a1) (closure_Greatest.f (k + 1) a0 a1):=by
 intro a0 a1 k
 unfold closure_Greatest.f
 repeat' first
   | (with_reducible apply closure_eliminate.mono)
   | (with_reducible exact LeO.refl _)
   | (with_reducible exact LeO.none _)
   | (with_reducible refine LeO.ite ?_ ?_)
   | (with_reducible refine LeO.bind ?_ (fun _=>?_))
set_option maxHeartbeats 8000000 in
set_option maxRecDepth 100000 in
theorem closure_Greatest.calls (k:Nat) (a3:Option Addr) (a4:Nat) (a2:List (S87)) (a1:Int) (r:Int) (w:World) (a8:Kd.C k87 w a3 a2.length a2) (a9:a2.length≤a4) (h:closure_Greatest.f k a2 a1=some r) :
  Calls Try.prog 47 #[.agg #[.slice a3 a2.length a4],.int .i64 a1] w fun e w'=>e = .returned (.int .i64 r)∧Below w.heap.size w w':=by
 have hu53:=Try.underlying53
 have b2:=Aside0.mk a8
 have b3:=Aside0.mk a9
 clear a8 a9
 have HB:=Aside0.mk (Below.refl w.heap.size w)
 have H:((closure_eliminate.f k a2 a1).bind fun a6=>(some a6.1))=some r:=h
 clear h
 replace H:=Option.bind_eq_some_iff.mp H
 obtain ⟨⟨b0,b4⟩,b1,H⟩:=H
 replace H:(some b0)=some r:=H
 have A3:=Aside0.mk b1
 clear b1
 obtain rfl:=Option.some.inj H
 go_enter Try.func47,Try.ntmps47
 go_wp2_with (first|((with_reducible refine gate_dst (N:=2) rfl ?_);refine box_event ?hg (N:=2) ?hd (cs:=#[.slice a3 a2.length a4]) (t:=53) ?hr ?_;(case hd=>rfl);(case hg=>rfl);(case hr=>first|(go_simp;done)|(go_simp;rfl));intro a7 hg w4 hbox hb;refine ap4 (below_step (belowP HB) hb) (hbox) ((by rw [hg];exact (below_size (belowP HB)):w.heap.size≤a7)) ((by rw [hg];exact (below_size (belowP HB)):w.heap.size≤a7)) ?_;clear HB;intro HB a5 GW421 b5;clear hb hbox hg;have b7:w4.cell? ⟨a7,0,none⟩=some (.slice a3 a2.length a4):=(blk_cell a5.out 0).trans rfl;have b8:=blk_frozen a5.out 0)|((with_reducible refine gate_callee (f:=61) rfl ?_);refine goesL_ (some 10) rfl rfl Try.func61 (by kernel_rfl) rfl #[.agg #[.slice a3 a2.length a4],.int .i64 a1] rfl tz0 ?_;(with_reducible refine (closure_eliminate.calls k _ _ a2 a1 b0 b4 _ ?side1 ?side2 A3.out).mono ?_);(case side1=>exact Kd.C_q (Kd.C_below b2.out HB.out));(case side2=>exact b3.out);rintro e w6 ⟨b9,rfl,b6,hb⟩;refine ⟨_,rfl,?_⟩;refine ap3 (Kd.R_lower b6 (below_size (belowP HB))) (blk_below (blkP a5) hb) (below_step (belowP HB) hb) ?_;clear a5 HB;intro c0 a5 HB))
 go_ret
 exact ⟨rE,by repeat (first|(with_reducible first|exact HB.out|apply below_alloc|apply pw_below_drewN|apply below_drew1|refine below_set ?_ b5.out)|exact HB.out)⟩
def federated_Confirms.f (k:Nat) (a3:List (S87)) (a1:Int) (a2:Int):Option (Bool):=(closure_Greatest.f k a3 a2).bind fun a4=>((nodeset_Has.f a4 a1).bind fun a5=>(some a5))
theorem federated_Confirms.mono:∀ a0 a1 a2 k,LeO (federated_Confirms.f k a0 a1 a2) (federated_Confirms.f (k + 1) a0 a1 a2):=by
 intro a0 a1 a2 k
 unfold federated_Confirms.f
 repeat' first
   | (with_reducible apply closure_Greatest.mono)
   | (with_reducible exact LeO.refl _)
   | (with_reducible exact LeO.none _)
   | (with_reducible refine LeO.ite ?_ ?_)
   | (with_reducible refine LeO.bind ?_ (fun _=>?_))
set_option maxHeartbeats 8000000 in
set_option maxRecDepth 100000 in
theorem federated_Confirms.calls (k:Nat) (a6:Option Addr) (a7:Nat) (a3:List (S87)) (a1:Int) (a2:Int) (r:Bool) (w:World) (b0:Kd.C k87 w a6 a3.length a3) (b1:a3.length≤a7) (h:federated_Confirms.f k a3 a1 a2=some r) :
  Calls Try.prog 30 #[.agg #[.slice a6 a3.length a7],.int .i64 a1,.int .i64 a2] w fun e w'=>e = .returned (.bool r)∧Below w.heap.size w w':=by
 have hu53:=Try.underlying53
 have b4:=Aside0.mk b0
 have b5:=Aside0.mk b1
 clear b0 b1
 have HB:=Aside0.mk (Below.refl w.heap.size w)
 have H:((closure_Greatest.f k a3 a2).bind fun a4=>((nodeset_Has.f a4 a1).bind fun a5=>(some a5)))=some r:=h
 clear h
 replace H:=Option.bind_eq_some_iff.mp H
 obtain ⟨a4,b2,H⟩:=H
 replace H:((nodeset_Has.f a4 a1).bind fun a5=>(some a5))=some r:=H
 have A4:=Aside0.mk b2
 clear b2
 replace H:=Option.bind_eq_some_iff.mp H
 obtain ⟨a5,b3,H⟩:=H
 replace H:(some a5)=some r:=H
 have A5:=Aside0.mk b3
 clear b3
 obtain rfl:=Option.some.inj H
 go_enter Try.func30,Try.ntmps30
 go_wp2_with (first|((with_reducible refine gate_dst (N:=3) rfl ?_);refine box_event ?hg (N:=3) ?hd (cs:=#[.slice a6 a3.length a7]) (t:=53) ?hr ?_;(case hd=>rfl);(case hg=>rfl);(case hr=>first|(go_simp;done)|(go_simp;rfl));intro a9 hg w6 hbox hb;refine ap4 (below_step (belowP HB) hb) (hbox) ((by rw [hg];exact (below_size (belowP HB)):w.heap.size≤a9)) ((by rw [hg];exact (below_size (belowP HB)):w.heap.size≤a9)) ?_;clear HB;intro HB a8 GW469 b6;clear hb hbox hg;have b7:w6.cell? ⟨a9,0,none⟩=some (.slice a6 a3.length a7):=(blk_cell a8.out 0).trans rfl;have b8:=blk_frozen a8.out 0)|((with_reducible refine gate_callee (f:=47) rfl ?_);refine goesL_ (some 9) rfl rfl Try.func47 (by kernel_rfl) rfl #[.agg #[.slice a6 a3.length a7],.int .i64 a2] rfl tz0 ?_;(with_reducible refine (closure_Greatest.calls k _ _ a3 a2 a4 _ ?side1 ?side2 A4.out).mono ?_);(case side1=>exact Kd.C_q (Kd.C_below b4.out HB.out));(case side2=>exact b5.out);rintro e w8 ⟨rfl,hb⟩;refine ⟨_,rfl,?_⟩;refine ap2 (blk_below (blkP a8) hb) (below_step (belowP HB) hb) ?_;clear a8 HB;intro a8 HB)|((with_reducible refine gate_callee (f:=46) rfl ?_);refine goesL_ (some 11) rfl rfl Try.func46 (by kernel_rfl) rfl #[.int .i64 a4,.int .i64 a1] rfl tz0 ?_;(with_reducible refine (nodeset_Has.calls a4 a1 a5 _ A5.out).mono ?_);rintro e w' ⟨rfl,⟨nd,rfl⟩⟩;refine ⟨_,rfl,?_⟩))
 go_ret
 exact ⟨rE,by repeat (first|(with_reducible first|exact HB.out|apply below_alloc|apply pw_below_drewN|apply below_drew1|refine below_set ?_ b6.out)|exact HB.out)⟩
def blocking_Blocks.f (k:Nat) (a3:List (S87)) (a1:Int) (a2:Int):Option (Bool):=(nodeset_Valid.f a2).bind fun b2=>(if b2=true then ((configuration_Declared.f k a3).bind fun a7=>((nodeset_Has.f a7 a1).bind fun a8=>(if a8=true then (if 0≤a1 then (if a1 < (a3.length:Int) then ((threshold_Satisfied.f k ((rd_T87 a3 a1).f1.f0) ((rd_T87 a3 a1).f1.f1) ((rd_T87 a3 a1).f1.f2) (Go.bits .or .i64 (Go.bits .andNot .i64 1023 a2) (shl .i64 1 a1))).bind fun a5=>(some (!a5))) else (none)) else (none)) else (some false)))) else (some false))
theorem blocking_Blocks.mono:∀ a0 a1 a2 k,LeO (blocking_Blocks.f k a0 a1 a2) (blocking_Blocks.f (k + 1) a0 a1 a2):=by
 intro a0 a1 a2 k
 unfold blocking_Blocks.f
 repeat' first
   | (with_reducible apply configuration_Declared.mono)
   | (with_reducible apply threshold_Satisfied.mono)
   | (with_reducible exact LeO.refl _)
   | (with_reducible exact LeO.none _)
   | (with_reducible refine LeO.ite ?_ ?_)
   | (with_reducible refine LeO.bind ?_ (fun _=>?_))
def blocking_Blocks.T3:Bool × List (List Nat × List Nat):=(true,[([],[]),([0],[0]),([],[]),([1,2],[1,2]),([3],[3]),([4],[4]),([],[]),([6],[6]),([],[]),([8],[8]),([7,9],[7,9]),([5,10],[5,10]),([11],[11]),([12,11,0,1,2,3,4,5,6,7,8,9,10,11,12],[12])])
def blocking_Blocks.B3:List Nat:=[0,1,0,7,15,31,0,64,0,256,960,2047,4095,8191]
theorem blocking_Blocks.tab3:rtab .any (opsOf Try.f58 3)=blocking_Blocks.T3:=by kernel_rfl
theorem blocking_Blocks.bits3:waitsOk blocking_Blocks.T3.2 blocking_Blocks.B3=true:=by kernel_rfl
set_option maxHeartbeats 8000000 in
set_option maxRecDepth 100000 in
theorem blocking_Blocks.calls (k:Nat) (b0:Option Addr) (a9:Nat) (a3:List (S87)) (a1:Int) (a2:Int) (r:Bool) (w:World) (d0:Kd.C k87 w b0 a3.length a3) (d1:a3.length≤a9) (h:blocking_Blocks.f k a3 a1 a2=some r) :
  Calls Try.prog 58 #[.agg #[.slice b0 a3.length a9],.int .i64 a1,.int .i64 a2] w fun e w'=>e = .returned (.bool r)∧Below w.heap.size w w':=by
 have hu53:=Try.underlying53
 have hu30:=Try.underlying30
 have b9:=Aside0.mk d0
 have d2:=Aside0.mk d1
 clear d0 d1
 have HB:=Aside0.mk (Below.refl w.heap.size w)
 have H:((nodeset_Valid.f a2).bind fun b2=>(if b2=true then ((configuration_Declared.f k a3).bind fun a7=>((nodeset_Has.f a7 a1).bind fun a8=>(if a8=true then (if 0≤a1 then (if a1 < (a3.length:Int) then ((threshold_Satisfied.f k ((rd_T87 a3 a1).f1.f0) ((rd_T87 a3 a1).f1.f1) ((rd_T87 a3 a1).f1.f2) (Go.bits .or .i64 (Go.bits .andNot .i64 1023 a2) (shl .i64 1 a1))).bind fun a5=>(some (!a5))) else (none)) else (none)) else (some false)))) else (some false)))=some r:=h
 clear h
 replace H:=Option.bind_eq_some_iff.mp H
 obtain ⟨b2,d3,H⟩:=H
 replace H:(if b2=true then ((configuration_Declared.f k a3).bind fun a7=>((nodeset_Has.f a7 a1).bind fun a8=>(if a8=true then (if 0≤a1 then (if a1 < (a3.length:Int) then ((threshold_Satisfied.f k ((rd_T87 a3 a1).f1.f0) ((rd_T87 a3 a1).f1.f1) ((rd_T87 a3 a1).f1.f2) (Go.bits .or .i64 (Go.bits .andNot .i64 1023 a2) (shl .i64 1 a1))).bind fun a5=>(some (!a5))) else (none)) else (none)) else (some false)))) else (some false))=some r:=H
 have A4:=Aside0.mk d3
 clear d3
 by_cases c5:b2=true
 ·subst c5
  rw [if_pos rfl] at H
  replace H:=Option.bind_eq_some_iff.mp H
  obtain ⟨a7,d4,H⟩:=H
  replace H:((nodeset_Has.f a7 a1).bind fun a8=>(if a8=true then (if 0≤a1 then (if a1 < (a3.length:Int) then ((threshold_Satisfied.f k ((rd_T87 a3 a1).f1.f0) ((rd_T87 a3 a1).f1.f1) ((rd_T87 a3 a1).f1.f2) (Go.bits .or .i64 (Go.bits .andNot .i64 1023 a2) (shl .i64 1 a1))).bind fun a5=>(some (!a5))) else (none)) else (none)) else (some false)))=some r:=H
  have A6:=Aside0.mk d4
  clear d4
  replace H:=Option.bind_eq_some_iff.mp H
  obtain ⟨a8,d5,H⟩:=H
  replace H:(if a8=true then (if 0≤a1 then (if a1 < (a3.length:Int) then ((threshold_Satisfied.f k ((rd_T87 a3 a1).f1.f0) ((rd_T87 a3 a1).f1.f1) ((rd_T87 a3 a1).f1.f2) (Go.bits .or .i64 (Go.bits .andNot .i64 1023 a2) (shl .i64 1 a1))).bind fun a5=>(some (!a5))) else (none)) else (none)) else (some false))=some r:=H
  have A7:=Aside0.mk d5
  clear d5
  by_cases c8:a8=true
  ·subst c8
   rw [if_pos rfl] at H
   by_cases c9:0≤a1
   ·rw [if_pos c9] at H
    have f8:decide (0≤a1)=true:=decide_eq_true c9
    clear c9
    by_cases c10:a1 < (a3.length:Int)
    ·rw [if_pos c10] at H
     have f9:decide (a1 < (a3.length:Int))=true:=decide_eq_true c10
     clear c10
     have g0:=eq_true (of_decide_eq_true tz2:0≤a1)
     obtain ⟨ji12,hji12⟩:∃ j_:Int,(shl .i64 1 a1)=j_:=⟨_,rfl⟩
     replace H:((threshold_Satisfied.f k ((rd_T87 a3 a1).f1.f0) ((rd_T87 a3 a1).f1.f1) ((rd_T87 a3 a1).f1.f2) (Go.bits .or .i64 (Go.bits .andNot .i64 1023 a2) (ji12))).bind fun a5=>(some (!a5)))=some r:=by first|(rw [hji12] at H;exact H)|(simp only [hji12] at H ⊢;exact H)
     (try rw [hji12] at A4)
     (try rw [hji12] at A6)
     (try rw [hji12] at A7)
     have hji12_:(IntKind.i64.wrap (1 * 2 ^ min a1.toNat 64))=ji12:=hji12
     have hji12z:a1≤64→(IntKind.i64.wrap (1 * 2 ^ a1.toNat))=ji12:=shl_small hji12
     have hji12u:(IntKind.i64.wrap (2 ^ min a1.toNat 64))=ji12:=by have h_:=hji12_;rw [Int.one_mul] at h_;exact h_
     have hji12v:a1≤64→(IntKind.i64.wrap (2 ^ a1.toNat))=ji12:=fun hle_=>by have h_:=hji12z hle_;rw [Int.one_mul] at h_;exact h_
     have hji12y:(wrap64 (1 * 2 ^ min a1.toNat 64))=ji12:=(i64_w _).symm.trans hji12_
     have hji12x:a1≤64→(wrap64 (1 * 2 ^ a1.toNat))=ji12:=fun h_=>(i64_w _).symm.trans (hji12z h_)
     replace H:=Option.bind_eq_some_iff.mp H
     obtain ⟨a5,d6,H⟩:=H
     replace H:(some (!a5))=some r:=H
     have e9:=Aside0.mk d6
     clear d6
     obtain rfl:=Option.some.inj H
     go_enter Try.func58,Try.ntmps58
     try go_wp2_with (first|((with_reducible refine gate_dst (N:=3) rfl ?_);refine box_event ?hg (N:=3) ?hd (cs:=#[.slice b0 a3.length a9]) (t:=53) ?hr ?_;(case hd=>rfl);(case hg=>rfl);(case hr=>first|(go_simp;done)|(go_simp;rfl));intro a6 hg f3 hbox hb;refine ap4 (below_step (belowP HB) hb) (hbox) ((by rw [hg];exact (below_size (belowP HB)):w.heap.size≤a6)) ((by rw [hg];exact (below_size (belowP HB)):w.heap.size≤a6)) ?_;clear HB;intro HB a4 GW426 b4;clear hb hbox hg)|((with_reducible refine gate_callee (f:=57) rfl ?_);refine goesL_ (some 8) rfl rfl Try.func57 (by kernel_rfl) rfl #[.int .i64 a2] rfl tz0 ?_;(with_reducible refine (nodeset_Valid.calls a2 true _ A4.out).mono ?_);rintro e w' ⟨rfl,⟨nd,rfl⟩⟩;refine ⟨_,rfl,?_⟩;have g1:f3.cell? ⟨a6,0,none⟩=some (.slice b0 a3.length a9):=(blk_cell a4.out 0).trans rfl;have g2:=blk_frozen a4.out 0)|(go_at_call 69;(with_reducible refine (configuration_Declared.calls k _ _ a3 a7 _ ?side1 ?side2 A6.out).mono ?_);(case side1=>exact (Kd.C_below b9.out (belowP HB)));(case side2=>exact d2.out);rintro e b3 ⟨rfl,hb⟩;refine ap2 (blk_below (blkP a4) hb) (below_step (belowP HB) hb) ?_;clear a4 HB;intro a4 HB)|(go_at_call 46;(with_reducible refine (nodeset_Has.calls a7 a1 true _ A7.out).mono ?_);rintro e w' ⟨rfl,⟨nd,rfl⟩⟩))
     (try (rw [drewN_self b3];generalize hq_:World.drewN b3 _=b3;have d7:Aside0 (b3.heap[a6]? = some (.cells #[.slice b0 a3.length a9] 53 (0,0))):=⟨by rw [← hq_];exact (blkP a4)⟩;have d8:Aside0 (Below w.heap.size w b3):=⟨by rw [← hq_];exact (belowP HB)⟩;clear a4 HB hq_;have a4:=d7;have HB:=d8;clear d7 d8))
     refine ap2 (blk_drew a4.out) (below_drew1 HB.out) ?_
     clear a4 HB
     intro a4 HB
     have c0:0≤(a1:Int):=of_decide_eq_true tz2
     have c1:a1 < (a3.length:Int):=of_decide_eq_true tz2
     obtain ⟨b1,d9,e0,e1,e2,f4,b5,b6,b7,b8,e3,e4,e5,e6⟩:=at_T87 b9.out a1 c0 c1
     have hw430_3:=b8
     have hw430_2:=b7
     have hw430_1:=b6
     have hw430_0:=b5
     cases f4
     replace b5:=(HB.out.cell (World.block_lt_of_cell? w _ b5)).trans b5
     replace b6:=(HB.out.cell (World.block_lt_of_cell? w _ b6)).trans b6
     replace b7:=(HB.out.cell (World.block_lt_of_cell? w _ b7)).trans b7
     replace b8:=(HB.out.cell (World.block_lt_of_cell? w _ b8)).trans b8
     have e7:=Aside0.mk e4
     have f5:=Aside0.mk e3
     clear e4 e3
     have e8:=Aside0.mk e6
     have f6:=Aside0.mk e5
     clear e6 e5
     replace c0:=eq_true c0
     replace c1:=eq_true c1
     refine start_ (n:=14) (S:=fun w'=>w'.cell? ⟨a6,0,none⟩=some (.slice (some b1) a3.length a9)∧w'.cell? (b1.add ((a1).toNat * 4))=some (.bool ((rd_T87 a3 a1).f0))∧w'.cell? ⟨(b1.add ((a1).toNat * 4)).block,(b1.add ((a1).toNat * 4)).off + 1,none⟩=some (.int .i64 ((rd_T87 a3 a1).f1.f0))∧w'.cell? ⟨(b1.add ((a1).toNat * 4)).block,(b1.add ((a1).toNat * 4)).off + 2,none⟩=some (.slice d9 ((rd_T87 a3 a1).f1.f1).length e0)∧w'.cell? ⟨(b1.add ((a1).toNat * 4)).block,(b1.add ((a1).toNat * 4)).off + 3,none⟩=some (.slice e1 ((rd_T87 a3 a1).f1.f2).length e2)) (ds:=[]) #[false,false,false,false,false,false,false,false,false,false,false,false,false,false] (by kernel_rfl) rfl rfl ⟨(blk_cell a4.out 0).trans rfl,((HB.out.cell (World.block_lt_of_cell? w _ hw430_0)).trans hw430_0),((HB.out.cell (World.block_lt_of_cell? w _ hw430_1)).trans hw430_1),((HB.out.cell (World.block_lt_of_cell? w _ hw430_2)).trans hw430_2),((HB.out.cell (World.block_lt_of_cell? w _ hw430_3)).trans hw430_3)⟩ (fun hHeld=>?_);refine with_tabW blocking_Blocks.tab3 blocking_Blocks.bits3 (fun HT_ HW_=>?_)
     generalize b3.drew=g3 at a4 HB e7 e8 b5 b6 b7 b8 hHeld ⊢
     refine pure_ (i:=0) (N:=some 17) #[true,false,false,false,false,false,false,false,false,false,false,false,false,false] rfl rfl (any_of HT_.out (by kernel_rfl)) (fun _ _ _ h=>h) (Or.inl ⟨by rfl,tz4⟩) tz1 ?_
     refine pure_ (i:=2) (N:=some 19) #[true,false,true,false,false,false,false,false,false,false,false,false,false,false] rfl rfl (any_of HT_.out (by kernel_rfl)) (fun _ _ _ h=>h) (Or.inl ⟨by rfl,tz4⟩) tz1 ?_
     refine pure_ (i:=6) (N:=some 23) #[true,false,true,false,false,false,true,false,false,false,false,false,false,false] rfl rfl (any_of HT_.out (by kernel_rfl)) (fun _ _ _ h=>h) (Or.inl ⟨by rfl,tz4⟩) tz1 ?_
     refine pure_ (i:=7) (N:=some 24) #[true,false,true,false,false,false,true,true,false,false,false,false,false,false] rfl rfl (any_of HT_.out (by kernel_rfl)) (fun _ _ _ h=>h) (Or.inl ⟨by rfl,tz4⟩) tz1 ?_
     refine pure_ (i:=8) (N:=some 25) #[true,false,true,false,false,false,true,true,true,false,false,false,false,false] rfl rfl (any_of HT_.out (by kernel_rfl)) (fun _ _ _ h=>h) (Or.inl ⟨by rfl,tz4⟩) tz1 ?_
     refine pure_ (i:=9) (N:=some 26) #[true,false,true,false,false,false,true,true,true,true,false,false,false,false] rfl rfl (any_of HT_.out (by kernel_rfl)) (fun _ _ _ h=>h) (Or.inl ⟨by rfl,tz4⟩) tz1 ?_
     refine pure_ (i:=10) (N:=some 27) #[true,false,true,false,false,false,true,true,true,true,true,false,false,false] rfl rfl (any_of HT_.out (by kernel_rfl)) (fun _ _ _ h=>h) (Or.inl ⟨by rfl,tz4⟩) tz1 ?_
     refine take_ (i:=1) (N:=some 18) #[true,true,true,false,false,false,true,true,true,true,true,false,false,false] rfl rfl (take_ofW HT_.out HW_.out (by kernel_rfl)) (fun _ _ _ h=>h) (Or.inl ⟨by rfl,(by rintro w' ⟨s0,s1,s2,s3,s4⟩;go_simp;with_reducible rfl)⟩) hHeld tz1 ?_
     refine pure_ (i:=3) (N:=some 20) #[true,true,true,true,false,false,true,true,true,true,true,false,false,false] rfl rfl (any_of HT_.out (by kernel_rfl)) (fun _ _ _ h=>h) (Or.inl ⟨by rfl,tz4⟩) tz1 ?_
     refine pure_ (i:=4) (N:=some 21) #[true,true,true,true,true,false,true,true,true,true,true,false,false,false] rfl rfl (any_of HT_.out (by kernel_rfl)) (fun _ _ _ h=>h) (Or.inl ⟨by rfl,tz4⟩) tz1 ?_
     refine take_ (i:=5) (N:=some 22) #[true,true,true,true,true,true,true,true,true,true,true,false,false,false] rfl rfl (take_ofW HT_.out HW_.out (by kernel_rfl)) (fun _ _ _ h=>h) (Or.inl ⟨by rfl,(by rintro w' ⟨s0,s1,s2,s3,s4⟩;go_simp;with_reducible rfl)⟩) hHeld tz1 ?_
     refine one_ (i:=11) (N:=some 28) #[true,true,true,true,true,true,true,true,true,true,true,true,false,false] rfl rfl (one_of HT_.out (by kernel_rfl)) (by decide) (fun K hK=>?_)
     refine goes_ Try.func70 (by kernel_rfl) rfl #[.agg #[.int .i64 ((rd_T87 a3 a1).f1.f0),.slice d9 ((rd_T87 a3 a1).f1.f1).length e0,.slice e1 ((rd_T87 a3 a1).f1.f2).length e2],.int .i64 (Go.bits .or .i64 (Go.bits .andNot .i64 1023 a2) (ji12))] (by rfl) rfl rfl (by (try simp only [List.map_toArray,List.map_cons,List.map_nil]);first|done|(simp only [hji12];rfl)|rfl|(simp only [List.length_drop,List.length_take];rfl)) ?_
     with_reducible refine (threshold_Satisfied.calls k ((rd_T87 a3 a1).f1.f0) _ _ ((rd_T87 a3 a1).f1.f1) _ _ ((rd_T87 a3 a1).f1.f2) (Go.bits .or .i64 (Go.bits .andNot .i64 1023 a2) (ji12)) a5 _ ?side1 ?side2 ?side3 ?side4 e9.out).mono ?_
     (case side1=>exact Kd.C_q (Kd.C_below e7.out HB.out))
     (case side2=>exact f5.out)
     (case side3=>exact Kd.C_q (Kd.C_below e8.out HB.out))
     (case side4=>exact f6.out)
     rintro e g4 ⟨rfl,hb⟩
     refine ⟨_,rfl,?_⟩
     refine ap2 (blk_below (blkP a4) hb) (below_step (belowP HB) hb) ?_
     clear a4 HB
     intro a4 HB
     (try clear hb)
     (try clear hb2)
     (try clear hk)
     (try clear hi)
     refine hK.out _ _ ⟨(blk_cell a4.out 0).trans rfl,((HB.out.cell (World.block_lt_of_cell? w _ hw430_0)).trans hw430_0),((HB.out.cell (World.block_lt_of_cell? w _ hw430_1)).trans hw430_1),((HB.out.cell (World.block_lt_of_cell? w _ hw430_2)).trans hw430_2),((HB.out.cell (World.block_lt_of_cell? w _ hw430_3)).trans hw430_3)⟩ (fun hHeld=>?_)
     clear hK K
     refine norm_ (a':=?_) ?_ ?_
     rotate_left
     ·show Act.put _ (some 28) _=_
      simp only [Act.put,List.setIfInBounds_toArray,List.set_cons_zero,List.set_cons_succ,i64_w,i32_w]
      rfl
     refine pure_ (i:=12) (N:=some 29) #[true,true,true,true,true,true,true,true,true,true,true,true,true,false] rfl rfl (any_of HT_.out (by kernel_rfl)) (fun _ _ _ h=>h) (Or.inl ⟨by rfl,tz4⟩) tz1 ?_
     refine pure_ (i:=13) (N:=some 6) #[true,true,true,true,true,true,true,true,true,true,true,true,true,true] rfl rfl (any_of HT_.out (by kernel_rfl)) (fun _ _ _ h=>h) (Or.inl ⟨by rfl,tz4⟩) tz1 ?_
     refine done_ (done_of HT_.out (by kernel_rfl)) ?_
     try go_wp2
     go_ret
     exact ⟨by first|rfl|(simp [errW_none,errW_some] <;> rfl)|(simp [errW_none,errW_some,ne_nil_isEmpty];done)|(simp only [← hji12];first|rfl|(simp [errW_none,errW_some] <;> rfl)|(simp [errW_none,errW_some,ne_nil_isEmpty];done))|(simp [*,errW_none,errW_some] <;> rfl),by repeat (first|(with_reducible first|exact HB.out|apply below_alloc|apply pw_below_drewN|apply below_drew1|refine below_set ?_ b4.out)|exact HB.out)⟩
    ·rw [if_neg c10] at H
     exact absurd H (by simp)
   ·rw [if_neg c9] at H
    exact absurd H (by simp)
  ·replace c8:=Bool.eq_false_iff.mpr c8
   subst c8
   rw [if_neg (show ¬ (false=true) by decide)] at H
   obtain rfl:=Option.some.inj H
   go_enter Try.func58,Try.ntmps58
   go_wp2_with (first|((with_reducible refine gate_dst (N:=3) rfl ?_);refine box_event ?hg (N:=3) ?hd (cs:=#[.slice b0 a3.length a9]) (t:=53) ?hr ?_;(case hd=>rfl);(case hg=>rfl);(case hr=>first|(go_simp;done)|(go_simp;rfl));intro a6 hg f7 hbox hb;refine ap4 (below_step (belowP HB) hb) (hbox) ((by rw [hg];exact (below_size (belowP HB)):w.heap.size≤a6)) ((by rw [hg];exact (below_size (belowP HB)):w.heap.size≤a6)) ?_;clear HB;intro HB a4 GW426 b4;clear hb hbox hg)|((with_reducible refine gate_callee (f:=57) rfl ?_);refine goesL_ (some 8) rfl rfl Try.func57 (by kernel_rfl) rfl #[.int .i64 a2] rfl tz0 ?_;(with_reducible refine (nodeset_Valid.calls a2 true _ A4.out).mono ?_);rintro e w' ⟨rfl,⟨nd,rfl⟩⟩;refine ⟨_,rfl,?_⟩;have g5:f7.cell? ⟨a6,0,none⟩=some (.slice b0 a3.length a9):=(blk_cell a4.out 0).trans rfl;have g6:=blk_frozen a4.out 0)|(go_at_call 69;(with_reducible refine (configuration_Declared.calls k _ _ a3 a7 _ ?side1 ?side2 A6.out).mono ?_);(case side1=>exact (Kd.C_below b9.out (belowP HB)));(case side2=>exact d2.out);rintro e g7 ⟨rfl,hb⟩;refine ap2 (blk_below (blkP a4) hb) (below_step (belowP HB) hb) ?_;clear a4 HB;intro a4 HB)|(go_at_call 46;(with_reducible refine (nodeset_Has.calls a7 a1 false _ A7.out).mono ?_);rintro e w' ⟨rfl,⟨nd,rfl⟩⟩))
   go_ret
   exact ⟨rE,by repeat (first|(with_reducible first|exact HB.out|apply below_alloc|apply pw_below_drewN|apply below_drew1|refine below_set ?_ b4.out)|exact HB.out)⟩
 ·replace c5:=Bool.eq_false_iff.mpr c5
  subst c5
  rw [if_neg (show ¬ (false=true) by decide)] at H
  obtain rfl:=Option.some.inj H
  go_enter Try.func58,Try.ntmps58
  go_wp2_with (first|((with_reducible refine gate_dst (N:=3) rfl ?_);refine box_event ?hg (N:=3) ?hd (cs:=#[.slice b0 a3.length a9]) (t:=53) ?hr ?_;(case hd=>rfl);(case hg=>rfl);(case hr=>first|(go_simp;done)|(go_simp;rfl));intro a6 hg g8 hbox hb;refine ap4 (below_step (belowP HB) hb) (hbox) ((by rw [hg];exact (below_size (belowP HB)):w.heap.size≤a6)) ((by rw [hg];exact (below_size (belowP HB)):w.heap.size≤a6)) ?_;clear HB;intro HB a4 GW426 b4;clear hb hbox hg)|((with_reducible refine gate_callee (f:=57) rfl ?_);refine goesL_ (some 8) rfl rfl Try.func57 (by kernel_rfl) rfl #[.int .i64 a2] rfl tz0 ?_;(with_reducible refine (nodeset_Valid.calls a2 false _ A4.out).mono ?_);rintro e w' ⟨rfl,⟨nd,rfl⟩⟩;refine ⟨_,rfl,?_⟩))
  go_ret
  exact ⟨rE,by repeat (first|(with_reducible first|exact HB.out|apply below_alloc|apply pw_below_drewN|apply below_drew1|refine below_set ?_ b4.out)|exact HB.out)⟩
def federated_Accepts.j0:Nat→Int→Int→Int→Bool→List (S87)→Option (Bool)
 | 0,_,_,_,_,_=>none
 | k + 1,x1,x2,x3,d9,d0=>if d9=true then (some false) else ((blocking_Blocks.f k d0 x1 x3).bind fun b4=>(if b4=true then (some true) else ((closure_Greatest.f k d0 (Go.bits .or .i64 x2 x3)).bind fun b0=>((nodeset_Has.f b0 x1).bind fun a9=>(some a9)))))
def federated_Accepts.f (k:Nat) (a4:List (S87)) (a1:Int) (a2:Int) (a3:Int):Option (Bool):=(nodeset_Valid.f a2).bind fun b1=>(if b1=true then ((nodeset_Valid.f a3).bind fun a6=>(federated_Accepts.j0 k a1 a2 a3 (!a6) a4)) else (federated_Accepts.j0 k a1 a2 a3 true a4))
theorem federated_Accepts.mono_l:∀ k,(∀ y0 y1 y2 y3 y4,LeO (federated_Accepts.j0 k y0 y1 y2 y3 y4) (federated_Accepts.j0 (k + 1) y0 y1 y2 y3 y4))
 | 0=>fun _ _ _ _ _ r h=>by simp [federated_Accepts.j0] at h
 | k + 1=>by
  have b8:=federated_Accepts.mono_l k
  ·intro y0 y1 y2 y3 y4
   unfold federated_Accepts.j0
   repeat' first
   | (with_reducible exact b8 _ _ _ _ _)
   | (with_reducible apply blocking_Blocks.mono)
   | (with_reducible apply closure_Greatest.mono)
   | (with_reducible exact LeO.refl _)
   | (with_reducible exact LeO.none _)
   | (with_reducible refine LeO.ite ?_ ?_)
   | (with_reducible refine LeO.bind ?_ (fun _=>?_))
theorem federated_Accepts.mono:∀ a0 a1 a2 a3 k,LeO (federated_Accepts.f k a0 a1 a2 a3) (federated_Accepts.f (k + 1) a0 a1 a2 a3):=by
 intro a0 a1 a2 a3 k
 have b8:=federated_Accepts.mono_l k
 unfold federated_Accepts.f
 repeat' first
   | (with_reducible exact b8 _ _ _ _ _)
   | (with_reducible apply blocking_Blocks.mono)
   | (with_reducible apply closure_Greatest.mono)
   | (with_reducible exact LeO.refl _)
   | (with_reducible exact LeO.none _)
   | (with_reducible refine LeO.ite ?_ ?_)
   | (with_reducible refine LeO.bind ?_ (fun _=>?_))
set_option maxHeartbeats 8000000 in
set_option maxRecDepth 100000 in
theorem federated_Accepts.calls (k:Nat) (a7:Option Addr) (a8:Nat) (a4:List (S87)) (a1:Int) (a2:Int) (a3:Int) (r:Bool) (w:World) (d1:Kd.C k87 w a7 a4.length a4) (d2:a4.length≤a8) (h:federated_Accepts.f k a4 a1 a2 a3=some r) :
  Calls Try.prog 43 #[.agg #[.slice a7 a4.length a8],.int .i64 a1,.int .i64 a2,.int .i64 a3] w fun e w'=>e = .returned (.bool r)∧Below w.heap.size w w':=by
 have hu53:=Try.underlying53
 have b9:=Aside0.mk d1
 have c0:=Aside0.mk d2
 clear d1 d2
 have HB:=Aside0.mk (Below.refl w.heap.size w)
 have H:((nodeset_Valid.f a2).bind fun b1=>(if b1=true then ((nodeset_Valid.f a3).bind fun a6=>(federated_Accepts.j0 k a1 a2 a3 (!a6) a4)) else (federated_Accepts.j0 k a1 a2 a3 true a4)))=some r:=h
 clear h
 have c1:=Aside0.mk H
 clear H
 go_enter Try.func43,Try.ntmps43
 go_upto_region 1 with (first|((with_reducible refine gate_dst (N:=4) rfl ?_);refine box_event ?hg (N:=4) ?hd (cs:=#[.slice a7 a4.length a8]) (t:=53) ?hr ?_;(case hd=>rfl);(case hg=>rfl);(case hr=>first|(go_simp;done)|(go_simp;rfl));intro b2 hg w6 hbox hb;refine ap4 (below_step (belowP HB) hb) (hbox) ((by rw [hg];exact (below_size (belowP HB)):w.heap.size≤b2)) ((by rw [hg];exact (below_size (belowP HB)):w.heap.size≤b2)) ?_;clear HB;intro HB a5 GW432 b3;clear hb hbox hg))
 (try simp only [Act.put,List.setIfInBounds_toArray,List.set_cons_zero,List.set_cons_succ])
 go_cut [16] (fun e0 wc=>∃ (kq:Nat) (b5:Bool),e0 = .bool b5∧Aside0 (federated_Accepts.j0 kq a1 a2 a3 b5 a4=some r)∧Aside0 (kq≤k)∧Aside0 (wc.heap[b2]? = some (.cells #[(.slice a7 a4.length a8)] 53 (0,0)))∧Aside0 (Below w.heap.size w wc))
 case first=>
  have H:=c1.out
  clear c1
  replace H:=Option.bind_eq_some_iff.mp H
  obtain ⟨b1,d3,H⟩:=H
  replace H:(if b1=true then ((nodeset_Valid.f a3).bind fun a6=>(federated_Accepts.j0 k a1 a2 a3 (!a6) a4)) else (federated_Accepts.j0 k a1 a2 a3 true a4))=some r:=H
  have A7:=Aside0.mk d3
  clear d3
  by_cases c8:b1=true
  ·subst c8
   rw [if_pos rfl] at H
   replace H:=Option.bind_eq_some_iff.mp H
   obtain ⟨a6,d4,H⟩:=H
   replace H:(federated_Accepts.j0 k a1 a2 a3 (!a6) a4)=some r:=H
   have A9:=Aside0.mk d4
   clear d4
   have H':=Aside0.mk H
   clear H
   go_wp2_with (first|((with_reducible refine gate_callee (f:=57) rfl ?_);refine goesL_ (some 10) rfl rfl Try.func57 (by kernel_rfl) rfl #[.int .i64 a2] rfl tz0 ?_;(with_reducible refine (nodeset_Valid.calls a2 true _ A7.out).mono ?_);rintro e w' ⟨rfl,⟨nd,rfl⟩⟩;refine ⟨_,rfl,?_⟩)|(go_at_call 57;(with_reducible refine (nodeset_Valid.calls a3 a6 _ A9.out).mono ?_);rintro e w' ⟨rfl,⟨nd,rfl⟩⟩))
   go_meet
   case rel=>exact ⟨_,(!a6),tz3,H',⟨by first|omega|exact Nat.le_refl _⟩,⟨by refine blkQ ?_;exact a5.out⟩,⟨by repeat (first|(with_reducible first|exact HB.out|apply below_alloc|apply pw_below_drewN|apply below_drew1|refine below_set ?_ b3.out)|exact HB.out)⟩⟩
  ·replace c8:=Bool.eq_false_iff.mpr c8
   subst c8
   rw [if_neg (show ¬ (false=true) by decide)] at H
   have H':=Aside0.mk H
   clear H
   go_wp2_with (first|((with_reducible refine gate_callee (f:=57) rfl ?_);refine goesL_ (some 10) rfl rfl Try.func57 (by kernel_rfl) rfl #[.int .i64 a2] rfl tz0 ?_;(with_reducible refine (nodeset_Valid.calls a2 false _ A7.out).mono ?_);rintro e w' ⟨rfl,⟨nd,rfl⟩⟩;refine ⟨_,rfl,?_⟩))
   go_meet
   case rel=>exact ⟨_,(true),tz3,H',⟨by first|omega|exact Nat.le_refl _⟩,⟨by refine blkQ ?_;exact a5.out⟩,⟨by repeat (first|(with_reducible first|exact HB.out|apply below_alloc|apply pw_below_drewN|apply below_drew1|refine below_set ?_ b3.out)|exact HB.out)⟩⟩
 case rest=>
  clear c1
  try clear c8
  try clear a5
  try clear HB
  obtain ⟨kq,b5,rfl,HA,HJ4,a5,HB⟩:=hcut
  cases kq with
  | zero=>exact absurd HA.out (by simp [federated_Accepts.j0])
  | succ b6=>
   have H:=HA.out
   clear HA
   simp only [federated_Accepts.j0] at H
   by_cases c10:b5=true
   ·subst c10
    rw [if_pos rfl] at H
    obtain rfl:=Option.some.inj H
    go_wp2
    go_ret
    exact ⟨rE,by repeat (first|(with_reducible first|exact HB.out|apply below_alloc|apply pw_below_drewN|apply below_drew1|refine below_set ?_ b3.out)|exact HB.out)⟩
   ·replace c10:=Bool.eq_false_iff.mpr c10
    subst c10
    rw [if_neg (show ¬ (false=true) by decide)] at H
    replace H:=Option.bind_eq_some_iff.mp H
    obtain ⟨b4,d5,H⟩:=H
    replace H:(if b4=true then (some true) else ((closure_Greatest.f b6 a4 (Go.bits .or .i64 a2 a3)).bind fun b0=>((nodeset_Has.f b0 a1).bind fun a9=>(some a9))))=some r:=H
    have d6:=Aside0.mk d5
    clear d5
    by_cases b7:b4=true
    ·subst b7
     rw [if_pos rfl] at H
     obtain rfl:=Option.some.inj H
     have e4:wc.cell? ⟨b2,0,none⟩=some (.slice a7 a4.length a8):=(blk_cell a5.out 0).trans rfl
     have e5:=blk_frozen a5.out 0
     go_wp2_with (first|((with_reducible refine gate_callee (f:=58) rfl ?_);refine goesL_ (some 20) rfl rfl Try.func58 (by kernel_rfl) rfl #[.agg #[.slice a7 a4.length a8],.int .i64 a1,.int .i64 a3] rfl tz0 ?_;(with_reducible refine (blocking_Blocks.calls b6 _ _ a4 a1 a3 true _ ?side1 ?side2 d6.out).mono ?_);(case side1=>exact Kd.C_q (Kd.C_below b9.out HB.out));(case side2=>exact c0.out);rintro e e6 ⟨rfl,hb⟩;refine ⟨_,rfl,?_⟩;refine ap2 (blk_below (blkP a5) hb) (below_step (belowP HB) hb) ?_;clear a5 HB;intro a5 HB))
     go_ret
     exact ⟨rE,by repeat (first|(with_reducible first|exact HB.out|apply below_alloc|apply pw_below_drewN|apply below_drew1|refine below_set ?_ b3.out)|exact HB.out)⟩
    ·replace b7:=Bool.eq_false_iff.mpr b7
     subst b7
     rw [if_neg (show ¬ (false=true) by decide)] at H
     replace H:=Option.bind_eq_some_iff.mp H
     obtain ⟨b0,d7,H⟩:=H
     replace H:((nodeset_Has.f b0 a1).bind fun a9=>(some a9))=some r:=H
     have e1:=Aside0.mk d7
     clear d7
     replace H:=Option.bind_eq_some_iff.mp H
     obtain ⟨a9,d8,H⟩:=H
     replace H:(some a9)=some r:=H
     have e2:=Aside0.mk d8
     clear d8
     obtain rfl:=Option.some.inj H
     have e7:wc.cell? ⟨b2,0,none⟩=some (.slice a7 a4.length a8):=(blk_cell a5.out 0).trans rfl
     have e8:=blk_frozen a5.out 0
     go_wp2_with (first|((with_reducible refine gate_callee (f:=58) rfl ?_);refine goesL_ (some 20) rfl rfl Try.func58 (by kernel_rfl) rfl #[.agg #[.slice a7 a4.length a8],.int .i64 a1,.int .i64 a3] rfl tz0 ?_;(with_reducible refine (blocking_Blocks.calls b6 _ _ a4 a1 a3 false _ ?side1 ?side2 d6.out).mono ?_);(case side1=>exact Kd.C_q (Kd.C_below b9.out HB.out));(case side2=>exact c0.out);rintro e e3 ⟨rfl,hb⟩;refine ⟨_,rfl,?_⟩;refine ap2 (blk_below (blkP a5) hb) (below_step (belowP HB) hb) ?_;clear a5 HB;intro a5 HB;have e9:e3.cell? ⟨b2,0,none⟩=some (.slice a7 a4.length a8):=(blk_cell a5.out 0).trans rfl;have f0:=blk_frozen a5.out 0)|(go_at_call 47;(with_reducible refine (closure_Greatest.calls b6 _ _ a4 (Go.bits .or .i64 a2 a3) b0 _ ?side1 ?side2 e1.out).mono ?_);(case side1=>exact Kd.C_q (Kd.C_below b9.out HB.out));(case side2=>exact c0.out);rintro e f1 ⟨rfl,hb⟩;refine ap2 (blk_below (blkP a5) hb) (below_step (belowP HB) hb) ?_;clear a5 HB;intro a5 HB)|(go_at_call 46;(with_reducible refine (nodeset_Has.calls b0 a1 a9 _ e2.out).mono ?_);rintro e w' ⟨rfl,⟨nd,rfl⟩⟩))
     go_ret
     exact ⟨rE,by repeat (first|(with_reducible first|exact HB.out|apply below_alloc|apply pw_below_drewN|apply below_drew1|refine below_set ?_ b3.out)|exact HB.out)⟩
end Go.Proofs.Ytnkpakakgfkpbaa.P
end
section
namespace Go.Proofs.Ytnkpakakgfkpbaa.P
open Go.RowKit Go.Proofs.YtnkpakakgfkpbaaW.PrintWords Go.Proofs.YtnkpakakgfkpbaaW.PrintLast Go.Proofs.YtnkpakakgfkpbaaW.PrintMore
open Go.Sort (putRow grow_empty)
def sOf (l:List UInt8):ByteArray:=⟨l.toArray⟩
def bOf (s:ByteArray):List UInt8:=s.data.toList
theorem sOf_bOf (s:ByteArray):sOf (bOf s)=s:=by cases s;rfl
theorem enc_bOf (s:ByteArray):encStr (bOf s) = .string s:=by rw [show encStr (bOf s) = .string (sOf (bOf s)) from rfl,sOf_bOf]
theorem enc_sOf (l:List UInt8):Value.string (sOf l)=encStr l:=rfl
def slices_Compact_string_string.f (l0:List ByteArray):Option (List ByteArray):=some ((Lib.compact (l0.map bOf)).map sOf)
theorem slices_Compact_string_string.calls (P0_:Nat→Prop) (u9000_:Value) (l0:List ByteArray) (r:List ByteArray) (w0 w:World) (hB:Below w0.heap.size w0 w)
    (ho0:Kd.R Kd.string 9 w w0.heap.size P0_ u9000_ l0) (h:slices_Compact_string_string.f l0=some r) :
    Calls Try.prog 52 #[u9000_] w fun e w'=>∃ v0_:Value,e = .returned (v0_)∧Kd.R Kd.string 9 w' w0.heap.size (fun k_=>(P0_ k_∨w.heap.size≤k_)) v0_ r∧Below w0.heap.size w0 w'∧Kept w w' (fun k_=>P0_ k_):=by
  obtain rfl:=Option.some.inj h
  have hown:=Kd.own_of_R ho0
  have hokg:=ho0.1
  rcases hown.2 with ⟨rfl,h0⟩|⟨g,cap,cur,rfl,hg,hb,hn,hc,hcs,htk⟩
  · obtain rfl:l0 = []:=List.eq_nil_of_length_eq_zero h0
    refine (Any.slices_Compact_string_empty Try.lays194 none 0 w).mono ?_
    rintro e w' ⟨rfl,rfl⟩
    exact ⟨_,rfl,Kd.R_mono ho0 (fun k hk=>.inl hk),hB,Kept.refl _ _⟩
  · have hl:(l0.map bOf).length=l0.length:=by simp
    have henc:(l0.map bOf).toArray.toList.map encStr=encs Value.string l0:=by
      simp only [List.map_map,encs]
      exact List.map_congr_left (fun s _=>enc_bOf s)
    have hsz:(l0.map bOf).toArray.size=l0.length:=by simp
    have ho1:w.ownsRow w0.heap.size 9 1 (.slice (some ⟨g,0,none⟩) (l0.map bOf).toArray.size cap) (l0.map bOf).toArray.size ((l0.map bOf).toArray.toList.map encStr):=by
      rw [hsz,henc];exact hown
    have hcl:=Any.slices_Compact_string Try.lays194 g 0 cap (l0.map bOf) w (own_holds encStr w w0.heap.size g cap _ _ ho1) (by rw [hl];simp only [maxLen] at hc;omega) (by rw [hl];exact hn)
    rw [hl] at hcl
    refine hcl.mono ?_
    rintro e w' ⟨rfl,q,rfl⟩
    have hlen:(Lib.compact (l0.map bOf)).length≤l0.length:=by have:=Lib.compact_length_le (l0.map bOf);omega
    obtain ⟨ho2,hgr⟩:=own_sorted encStr w w0.heap.size g cap q _ _ (Lib.compact (l0.map bOf) ++ List.replicate (l0.length - (Lib.compact (l0.map bOf)).length) []).toArray #[] ho1 (by simp;omega)
    rw [sortWorld_nothing] at ho2 hgr
    refine ⟨_,rfl,?_,pw_below_grown hB _ hB.size hgr (fun k hk=>by injection hk with hk;omega),⟨hgr.size,fun i hi hne=>hgr.block i hi (fun he=>hne (by injection he with he;rw [he];exact hokg g rfl))⟩⟩
    have ho3:=own_take ho2 (Lib.compact (l0.map bOf)).length (by simpa using hlen)
    refine Kd.R_of_own (h1:=fun _=>rfl) (enc:=Value.string) (ok:=fun k_=>(P0_ k_∨w.heap.size≤k_)) ?_ (fun k hk=>.inl (hokg k hk))
    rw [List.length_map]
    have he:encs Value.string ((Lib.compact (l0.map bOf)).map sOf)=List.take (Lib.compact (l0.map bOf)).length ((Lib.compact (l0.map bOf) ++ List.replicate (l0.length - (Lib.compact (l0.map bOf)).length) []).toArray.toList.map encStr):=by
      simp [encs,List.map_append,Function.comp_def,enc_sOf]
    rw [he]
    exact ho3
end Go.Proofs.Ytnkpakakgfkpbaa.P
end
