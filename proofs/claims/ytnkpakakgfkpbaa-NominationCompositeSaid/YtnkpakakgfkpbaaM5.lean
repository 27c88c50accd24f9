/-
  For every two lists of strings the function of the law NominationComposite returns true, and both arguments read behind the call what they read before. No condition.
-/
import Derived.Test.YtnkpakakgfkpbaaM4
import Derived.Test.YtnkpakakgfkpbaaRows
import Derived.ProofKit
import Derived.OpenShut
import Derived.ShutString
import Derived.ChangeOld
import Derived.SizedLaws
import Derived.SliceStrings
set_option linter.unusedVariables false
set_option linter.unusedSimpArgs false
section
namespace Go.Proofs.Ytnkpakakgfkpbaa.P
open Go.RowKit Go.Proofs.YtnkpakakgfkpbaaW.PrintWords Go.Proofs.YtnkpakakgfkpbaaW.PrintLast Go.Proofs.YtnkpakakgfkpbaaW.PrintMore
attribute [local go_sem] max2_int max_two binOp_string_gtr_pp
def nomination_Start.j0:Nat→Int→Int→ByteArray→Bool→Int→List Int→List (S30)→Option (Int × Int × Int × Int × Int × List Int × (List (S30)) × ByteArray × List ByteArray × List ByteArray × List ByteArray × (List (S48)) × Int)
 | 0,_,_,_,_,_,_,_=>none
 | k + 1,x0,x1,x3,n0,k6,k7,k8=>if n0=true then (some (0,0,0,0,0,([]:List Int),([]:List (S30)),(⟨#[]⟩:ByteArray),([]:List ByteArray),([]:List ByteArray),([]:List ByteArray),([]:List (S48)),1)) else ((threshold_Valid.f k k6 k7 k8).bind fun d1=>(if d1=0 then (if (x3.size:Int) > 200 then (some (0,0,0,0,0,([]:List Int),([]:List (S30)),(⟨#[]⟩:ByteArray),([]:List ByteArray),([]:List ByteArray),([]:List ByteArray),([]:List (S48)),3)) else ((nomination_settled.f k x0 x1 1 1 k6 k7 k8 x3 ([]:List ByteArray) ([]:List ByteArray) ([]:List ByteArray) ([]:List (S48))).bind fun b2=>((nomination_fresh.f k b2.1 b2.2.1 b2.2.2.1 b2.2.2.2.1 b2.2.2.2.2.1 b2.2.2.2.2.2.1 b2.2.2.2.2.2.2.1 b2.2.2.2.2.2.2.2.1 b2.2.2.2.2.2.2.2.2.1 b2.2.2.2.2.2.2.2.2.2.1 b2.2.2.2.2.2.2.2.2.2.2.1 b2.2.2.2.2.2.2.2.2.2.2.2).bind fun a9=>(some (a9.1,a9.2.1,a9.2.2.1,a9.2.2.2.1,a9.2.2.2.2.1,a9.2.2.2.2.2.1,a9.2.2.2.2.2.2.1,a9.2.2.2.2.2.2.2.1,a9.2.2.2.2.2.2.2.2.1,a9.2.2.2.2.2.2.2.2.2.1,a9.2.2.2.2.2.2.2.2.2.2.1,a9.2.2.2.2.2.2.2.2.2.2.2,0))))) else (some (0,0,0,0,0,([]:List Int),([]:List (S30)),(⟨#[]⟩:ByteArray),([]:List ByteArray),([]:List ByteArray),([]:List ByteArray),([]:List (S48)),d1))))
def nomination_Start.f (k:Nat) (a0:Int) (a1:Int) (b3:Int) (b0:List Int) (b1:List (S30)) (a3:ByteArray):Option (Int × Int × Int × Int × Int × List Int × (List (S30)) × ByteArray × List ByteArray × List ByteArray × List ByteArray × (List (S48)) × Int):=(nomination_node.f a0).bind fun g6=>(if g6=true then (if a1 < 0 then (nomination_Start.j0 k a0 a1 a3 true b3 b0 b1) else (nomination_Start.j0 k a0 a1 a3 (decide (a1 > 1000000)) b3 b0 b1)) else (some (0,0,0,0,0,([]:List Int),([]:List (S30)),(⟨#[]⟩:ByteArray),([]:List ByteArray),([]:List ByteArray),([]:List ByteArray),([]:List (S48)),5)))
theorem nomination_Start.mono_l:∀ k,(∀ y0 y1 y2 y3 y4 y5 y6,LeO (nomination_Start.j0 k y0 y1 y2 y3 y4 y5 y6) (nomination_Start.j0 (k + 1) y0 y1 y2 y3 y4 y5 y6))
 | 0=>fun _ _ _ _ _ _ _ r h=>by simp [nomination_Start.j0] at h
 | k + 1=>by
  have k1:=nomination_Start.mono_l k
  ·intro y0 y1 y2 y3 y4 y5 y6
   unfold nomination_Start.j0
   repeat' first
   | (with_reducible exact k1 _ _ _ _ _ _ _)
   | (with_reducible apply nomination_fresh.mono)
   | (with_reducible apply nomination_settled.mono)
   | (with_reducible apply threshold_Valid.mono)
   | (with_reducible exact LeO.refl _)
   | (with_reducible exact LeO.none _)
   | (with_reducible refine LeO.ite ?_ ?_)
   | (with_reducible refine LeO.bind ?_ (fun _=>?_))
theorem nomination_Start.mono:∀ a0 a1 a2 a3 a4 a5 k,LeO (nomination_Start.f k a0 a1 a2 a3 a4 a5) (nomination_Start.f (k + 1) a0 a1 a2 a3 a4 a5):=by
 intro a0 a1 a2 a3 a4 a5 k
 have k1:=nomination_Start.mono_l k
 unfold nomination_Start.f
 repeat' first
   | (with_reducible exact k1 _ _ _ _ _ _ _)
   | (with_reducible apply nomination_fresh.mono)
   | (with_reducible apply nomination_settled.mono)
   | (with_reducible apply threshold_Valid.mono)
   | (with_reducible exact LeO.refl _)
   | (with_reducible exact LeO.none _)
   | (with_reducible refine LeO.ite ?_ ?_)
   | (with_reducible refine LeO.bind ?_ (fun _=>?_))
set_option maxHeartbeats 8000000 in
set_option maxRecDepth 100000 in
theorem nomination_Start.calls (k:Nat) (a0:Int) (a1:Int) (b3:Int) (e1:Option Addr) (e2:Nat) (b0:List Int) (e3:Option Addr) (e4:Nat) (b1:List (S30)) (a3:ByteArray) (r1:Int) (r2:Int) (r3:Int) (r4:Int) (r5:Int) (r6:List Int) (r7:List (S30)) (r8:ByteArray) (r9:List ByteArray) (r10:List ByteArray) (r11:List ByteArray) (r12:List (S48)) (r13:Int) (w:World) (k9:Kd.C (Kd.int .i64) w e1 b0.length b0) (l3:b0.length≤e2) (l4:Kd.C k30 w e3 b1.length b1) (l5:b1.length≤e4) (h:nomination_Start.f k a0 a1 b3 b0 b1 a3=some (r1,r2,r3,r4,r5,r6,r7,r8,r9,r10,r11,r12,r13)) :
  Calls Try.prog 7 #[.int .i64 a0,.int .i64 a1,.agg #[.int .i64 b3,.slice e1 b0.length e2,.slice e3 b1.length e4],.string a3] w fun e w'=>∃ i0 k2 h7 h8 h9 l6:Value,e = .returned (.tuple #[.agg #[.int .i64 r1,.int .i64 r2,.int .i64 r3,.int .i64 r4,.int .i64 r5,i0,k2,.string r8,h7,h8,h9,l6],.int .i64 r13])∧Kd.R (Kd.int .i64) 3 w' w.heap.size (fun _=>True) i0 r6∧Kd.R k30 30 w' w.heap.size (fun k_=>some k_≠(i0:Value).ownBlock) k2 r7∧Kd.R Kd.string 9 w' w.heap.size (fun k_=>some k_≠(h8:Value).ownBlock∧some k_≠(h9:Value).ownBlock) h7 r9∧Kd.R Kd.string 9 w' w.heap.size (fun k_=>some k_≠(h7:Value).ownBlock∧some k_≠(h9:Value).ownBlock) h8 r10∧Kd.R Kd.string 9 w' w.heap.size (fun k_=>some k_≠(h7:Value).ownBlock∧some k_≠(h8:Value).ownBlock) h9 r11∧Kd.R k48 48 w' w.heap.size (fun k_=>some k_≠(i0:Value).ownBlock∧some k_≠(k2:Value).ownBlock∧some k_≠(h7:Value).ownBlock∧some k_≠(h8:Value).ownBlock∧some k_≠(h9:Value).ownBlock) l6 r12∧Below w.heap.size w w':=by
 have hu30:=Try.underlying30
 have hu33:=Try.underlying33
 have i1:=Aside0.mk k9
 have i2:=Aside0.mk l3
 clear k9 l3
 have i3:=Aside0.mk l4
 have i4:=Aside0.mk l5
 clear l4 l5
 have HB:=Aside0.mk (Below.refl w.heap.size w)
 have H:((nomination_node.f a0).bind fun g6=>(if g6=true then (if a1 < 0 then (nomination_Start.j0 k a0 a1 a3 true b3 b0 b1) else (nomination_Start.j0 k a0 a1 a3 (decide (a1 > 1000000)) b3 b0 b1)) else (some (0,0,0,0,0,([]:List Int),([]:List (S30)),(⟨#[]⟩:ByteArray),([]:List ByteArray),([]:List ByteArray),([]:List ByteArray),([]:List (S48)),5))))=some (r1,r2,r3,r4,r5,r6,r7,r8,r9,r10,r11,r12,r13):=h
 clear h
 replace H:=Option.bind_eq_some_iff.mp H
 obtain ⟨g6,l7,H⟩:=H
 replace H:(if g6=true then (if a1 < 0 then (nomination_Start.j0 k a0 a1 a3 true b3 b0 b1) else (nomination_Start.j0 k a0 a1 a3 (decide (a1 > 1000000)) b3 b0 b1)) else (some (0,0,0,0,0,([]:List Int),([]:List (S30)),(⟨#[]⟩:ByteArray),([]:List ByteArray),([]:List ByteArray),([]:List ByteArray),([]:List (S48)),5)))=some (r1,r2,r3,r4,r5,r6,r7,r8,r9,r10,r11,r12,r13):=H
 have A5:=Aside0.mk l7
 clear l7
 by_cases c6:g6=true
 ·subst c6
  rw [if_pos rfl] at H
  have k3:=Aside0.mk H
  clear H
  go_enter Try.func7,Try.ntmps7
  go_upto_region 3 with (first|((with_reducible refine gate_dst (N:=6) rfl ?_);refine box_event ?hg (N:=6) ?hd (cs:=#[.int .i64 b3,.slice e1 b0.length e2,.slice e3 b1.length e4]) (t:=30) ?hr ?_;(case hd=>rfl);(case hg=>rfl);(case hr=>first|(go_simp;done)|(go_simp;rfl));intro b4 hg w8 hbox hb;refine ap4 (below_step (belowP HB) hb) (hbox) ((by rw [hg];exact (below_size (belowP HB)):w.heap.size≤b4)) ((by rw [hg];exact (below_size (belowP HB)):w.heap.size≤b4)) ?_;clear HB;intro HB a8 GW516 f8;clear hb hbox hg)|((with_reducible refine gate_dst (N:=8) rfl ?_);refine box_event ?hg (N:=8) ?hd (cs:=#[.int .i64 0,.int .i64 0,.int .i64 0,.int .i64 0,.int .i64 0,.slice none 0 0,.slice none 0 0,.string (⟨#[]⟩:ByteArray),.slice none 0 0,.slice none 0 0,.slice none 0 0,.slice none 0 0]) (t:=33) ?hr ?_;(case hd=>rfl);(case hg=>rfl);(case hr=>first|(go_simp;done)|(go_simp;rfl));intro a6 hg w9 hbox hb;refine ap7 (blk_below (blkP a8) hb) (below_step (belowP HB) hb) (hbox) ((by rw [hg];exact (below_size (belowP HB)):w.heap.size≤a6)) ((by rw [hg];exact (below_size (belowP HB)):w.heap.size≤a6)) ((by rw [hg];exact Nat.ne_of_lt (blk_lt (blkP a8)):b4≠a6)) ((by rw [hg];exact Nat.ne_of_gt (blk_lt (blkP a8)):a6≠b4)) ?_;clear a8 HB;intro a8 HB a7 GW517 f9 g7 g8;clear hb hbox hg)|((with_reducible refine gate_callee (f:=10) rfl ?_);refine goesL_ (some 12) rfl rfl Try.func10 (by kernel_rfl) rfl #[.int .i64 a0] rfl tz0 ?_;(with_reducible refine (nomination_node.calls a0 true _ A5.out).mono ?_);rintro e w' ⟨rfl,⟨nd,rfl⟩⟩;refine ⟨_,rfl,?_⟩))
  (try simp only [Act.put,List.setIfInBounds_toArray,List.set_cons_zero,List.set_cons_succ])
  go_cut [20] (fun n1 wc=>∃ (kq:Nat) (i5:Bool),n1 = .bool i5∧Aside0 (nomination_Start.j0 kq a0 a1 a3 i5 b3 b0 b1=some (r1,r2,r3,r4,r5,r6,r7,r8,r9,r10,r11,r12,r13))∧Aside0 (kq≤k)∧Aside0 (wc.heap[b4]? = some (.cells #[.int .i64 b3,(.slice e1 b0.length e2),(.slice e3 b1.length e4)] 30 (0,0)))∧Aside0 (wc.heap[a6]? = some (.cells #[.int .i64 0,.int .i64 0,.int .i64 0,.int .i64 0,.int .i64 0,(.slice none 0 0),(.slice none 0 0),.string (⟨#[]⟩:ByteArray),(.slice none 0 0),(.slice none 0 0),(.slice none 0 0),(.slice none 0 0)] 33 (0,0)))∧Aside0 (Below w.heap.size w wc))
  case first=>
   have H:=k3.out
   clear k3
   by_cases c10:a1 < 0
   ·rw [if_pos c10] at H
    have g9:decide (a1 < 0)=true:=decide_eq_true c10
    clear c10
    (first|rw [g9] | (simp only [i64_w,i32_w];rw [g9])|skip)
    have H':=Aside0.mk H
    clear H
    go_wp2
    go_meet
    case rel=>exact ⟨_,(true),tz3,H',⟨by first|omega|exact Nat.le_refl _⟩,⟨by refine blkQ ?_;exact a8.out⟩,⟨by refine blkQ ?_;exact a7.out⟩,⟨by repeat (first|(with_reducible first|exact HB.out|apply below_alloc|apply pw_below_drewN|apply below_drew1|refine below_set ?_ f8.out|refine below_set ?_ f9.out)|exact HB.out)⟩⟩
   ·rw [if_neg c10] at H
    have g9:decide (a1 < 0)=false:=decide_eq_false c10
    clear c10
    (first|rw [g9] | (simp only [i64_w,i32_w];rw [g9])|skip)
    have H':=Aside0.mk H
    clear H
    go_wp2
    go_meet
    case rel=>exact ⟨_,(decide (a1 > 1000000)),tz3,H',⟨by first|omega|exact Nat.le_refl _⟩,⟨by refine blkQ ?_;exact a8.out⟩,⟨by refine blkQ ?_;exact a7.out⟩,⟨by repeat (first|(with_reducible first|exact HB.out|apply below_alloc|apply pw_below_drewN|apply below_drew1|refine below_set ?_ f8.out|refine below_set ?_ f9.out)|exact HB.out)⟩⟩
  case rest=>
   clear k3
   try clear c6
   try clear c10
   try clear g9
   try clear a8
   try clear a7
   try clear HB
   obtain ⟨kq,i5,rfl,HA,HJ6,a8,a7,HB⟩:=hcut
   cases kq with
   | zero=>exact absurd HA.out (by simp [nomination_Start.j0])
   | succ g0=>
    have H:=HA.out
    clear HA
    simp only [nomination_Start.j0] at H
    by_cases i6:i5=true
    ·subst i6
     rw [if_pos rfl] at H
     simp only [Option.some.injEq,Prod.mk.injEq] at H
     obtain ⟨rfl,rfl,rfl,rfl,rfl,rfl,rfl,rfl,rfl,rfl,rfl,rfl,rfl⟩:=H
     have q2:=g8.out
     have q3:=g7.out
     obtain ⟨q4,q5,q6,q7,q8,q9,r0,s0,s1,s2,s3,s4⟩:=cells12 a7.out
     obtain ⟨s5,s6,s7,s8,s9,t0,t1,t2,t3,t4,t5,t6⟩:=froz12 a7.out
     go_wp2
     refine bodyPost_ret (results_ct rfl _ _ a6 33 #[.int .i64 0,.int .i64 0,.int .i64 0,.int .i64 0,.int .i64 0,.slice none 0 0,.slice none 0 0,.string (⟨#[]⟩:ByteArray),.slice none 0 0,.slice none 0 0,.slice none 0 0,.slice none 0 0] (0,0) _ rfl (by refine blkQ ?_;refine blk_put (cs:=#[.int .i64 0,.int .i64 0,.int .i64 0,.int .i64 0,.int .i64 0,.slice none 0 0,.slice none 0 0,.string (⟨#[]⟩:ByteArray),.slice none 0 0,.slice none 0 0,.slice none 0 0,.slice none 0 0]) ?_ 11 _ rfl;refine blkQ ?_;refine blk_put (cs:=#[.int .i64 0,.int .i64 0,.int .i64 0,.int .i64 0,.int .i64 0,.slice none 0 0,.slice none 0 0,.string (⟨#[]⟩:ByteArray),.slice none 0 0,.slice none 0 0,.slice none 0 0,.slice none 0 0]) ?_ 10 _ rfl;refine blkQ ?_;refine blk_put (cs:=#[.int .i64 0,.int .i64 0,.int .i64 0,.int .i64 0,.int .i64 0,.slice none 0 0,.slice none 0 0,.string (⟨#[]⟩:ByteArray),.slice none 0 0,.slice none 0 0,.slice none 0 0,.slice none 0 0]) ?_ 9 _ rfl;refine blkQ ?_;refine blk_put (cs:=#[.int .i64 0,.int .i64 0,.int .i64 0,.int .i64 0,.int .i64 0,.slice none 0 0,.slice none 0 0,.string (⟨#[]⟩:ByteArray),.slice none 0 0,.slice none 0 0,.slice none 0 0,.slice none 0 0]) ?_ 8 _ rfl;refine blkQ ?_;refine blk_put (cs:=#[.int .i64 0,.int .i64 0,.int .i64 0,.int .i64 0,.int .i64 0,.slice none 0 0,.slice none 0 0,.string (⟨#[]⟩:ByteArray),.slice none 0 0,.slice none 0 0,.slice none 0 0,.slice none 0 0]) ?_ 7 _ rfl;refine blkQ ?_;refine blk_put (cs:=#[.int .i64 0,.int .i64 0,.int .i64 0,.int .i64 0,.int .i64 0,.slice none 0 0,.slice none 0 0,.string (⟨#[]⟩:ByteArray),.slice none 0 0,.slice none 0 0,.slice none 0 0,.slice none 0 0]) ?_ 6 _ rfl;refine blkQ ?_;refine blk_put (cs:=#[.int .i64 0,.int .i64 0,.int .i64 0,.int .i64 0,.int .i64 0,.slice none 0 0,.slice none 0 0,.string (⟨#[]⟩:ByteArray),.slice none 0 0,.slice none 0 0,.slice none 0 0,.slice none 0 0]) ?_ 5 _ rfl;refine blkQ ?_;refine blk_put (cs:=#[.int .i64 0,.int .i64 0,.int .i64 0,.int .i64 0,.int .i64 0,.slice none 0 0,.slice none 0 0,.string (⟨#[]⟩:ByteArray),.slice none 0 0,.slice none 0 0,.slice none 0 0,.slice none 0 0]) ?_ 4 _ rfl;refine blkQ ?_;refine blk_put (cs:=#[.int .i64 0,.int .i64 0,.int .i64 0,.int .i64 0,.int .i64 0,.slice none 0 0,.slice none 0 0,.string (⟨#[]⟩:ByteArray),.slice none 0 0,.slice none 0 0,.slice none 0 0,.slice none 0 0]) ?_ 3 _ rfl;refine blkQ ?_;refine blk_put (cs:=#[.int .i64 0,.int .i64 0,.int .i64 0,.int .i64 0,.int .i64 0,.slice none 0 0,.slice none 0 0,.string (⟨#[]⟩:ByteArray),.slice none 0 0,.slice none 0 0,.slice none 0 0,.slice none 0 0]) ?_ 2 _ rfl;refine blkQ ?_;refine blk_put (cs:=#[.int .i64 0,.int .i64 0,.int .i64 0,.int .i64 0,.int .i64 0,.slice none 0 0,.slice none 0 0,.string (⟨#[]⟩:ByteArray),.slice none 0 0,.slice none 0 0,.slice none 0 0,.slice none 0 0]) ?_ 1 _ rfl;refine blkQ ?_;refine blk_put (cs:=#[.int .i64 0,.int .i64 0,.int .i64 0,.int .i64 0,.int .i64 0,.slice none 0 0,.slice none 0 0,.string (⟨#[]⟩:ByteArray),.slice none 0 0,.slice none 0 0,.slice none 0 0,.slice none 0 0]) ?_ 0 _ rfl;refine blkQ ?_;exact a7.out) Try.underlying33 rfl (by kernel_rfl)) rfl ?_
     exact ⟨_,_,_,_,_,_,rE,by first|exact Kd.R_nil _ _ _ _ _|exact Kd.N_nil _ _ _ _ _|exact Kd.V_nil _ _ _ _ _|exact Kd.Q_nil _ _ _ _ _|exact Kd.S_nil _ _ _ _ _,by first|exact Kd.R_nil _ _ _ _ _|exact Kd.N_nil _ _ _ _ _|exact Kd.V_nil _ _ _ _ _|exact Kd.Q_nil _ _ _ _ _|exact Kd.S_nil _ _ _ _ _,by first|exact Kd.R_nil _ _ _ _ _|exact Kd.N_nil _ _ _ _ _|exact Kd.V_nil _ _ _ _ _|exact Kd.Q_nil _ _ _ _ _|exact Kd.S_nil _ _ _ _ _,by first|exact Kd.R_nil _ _ _ _ _|exact Kd.N_nil _ _ _ _ _|exact Kd.V_nil _ _ _ _ _|exact Kd.Q_nil _ _ _ _ _|exact Kd.S_nil _ _ _ _ _,by first|exact Kd.R_nil _ _ _ _ _|exact Kd.N_nil _ _ _ _ _|exact Kd.V_nil _ _ _ _ _|exact Kd.Q_nil _ _ _ _ _|exact Kd.S_nil _ _ _ _ _,by first|exact Kd.R_nil _ _ _ _ _|exact Kd.N_nil _ _ _ _ _|exact Kd.V_nil _ _ _ _ _|exact Kd.Q_nil _ _ _ _ _|exact Kd.S_nil _ _ _ _ _,by repeat (first|(with_reducible first|exact HB.out|apply below_alloc|apply pw_below_drewN|apply below_drew1|refine below_set ?_ f8.out|refine below_set ?_ f9.out)|exact HB.out)⟩
    ·replace i6:=Bool.eq_false_iff.mpr i6
     subst i6
     rw [if_neg (show ¬ (false=true) by decide)] at H
     replace H:=Option.bind_eq_some_iff.mp H
     obtain ⟨d1,l8,H⟩:=H
     replace H:(if d1=0 then (if (a3.size:Int) > 200 then (some (0,0,0,0,0,([]:List Int),([]:List (S30)),(⟨#[]⟩:ByteArray),([]:List ByteArray),([]:List ByteArray),([]:List ByteArray),([]:List (S48)),3)) else ((nomination_settled.f g0 a0 a1 1 1 b3 b0 b1 a3 ([]:List ByteArray) ([]:List ByteArray) ([]:List ByteArray) ([]:List (S48))).bind fun b2=>((nomination_fresh.f g0 b2.1 b2.2.1 b2.2.2.1 b2.2.2.2.1 b2.2.2.2.2.1 b2.2.2.2.2.2.1 b2.2.2.2.2.2.2.1 b2.2.2.2.2.2.2.2.1 b2.2.2.2.2.2.2.2.2.1 b2.2.2.2.2.2.2.2.2.2.1 b2.2.2.2.2.2.2.2.2.2.2.1 b2.2.2.2.2.2.2.2.2.2.2.2).bind fun a9=>(some (a9.1,a9.2.1,a9.2.2.1,a9.2.2.2.1,a9.2.2.2.2.1,a9.2.2.2.2.2.1,a9.2.2.2.2.2.2.1,a9.2.2.2.2.2.2.2.1,a9.2.2.2.2.2.2.2.2.1,a9.2.2.2.2.2.2.2.2.2.1,a9.2.2.2.2.2.2.2.2.2.2.1,a9.2.2.2.2.2.2.2.2.2.2.2,0))))) else (some (0,0,0,0,0,([]:List Int),([]:List (S30)),(⟨#[]⟩:ByteArray),([]:List ByteArray),([]:List ByteArray),([]:List ByteArray),([]:List (S48)),d1)))=some (r1,r2,r3,r4,r5,r6,r7,r8,r9,r10,r11,r12,r13):=H
     have k4:=Aside0.mk l8
     clear l8
     by_cases g3:d1=0
     ·rw [if_pos g3] at H
      have n2:(d1 == 0)=true:=beq_iff_eq.mpr g3
      have n3:(d1 != 0)=false:=bne_eq_false_iff_eq.mpr g3
      clear g3
      by_cases h0:(a3.size:Int) > 200
      ·rw [if_pos h0] at H
       have n4:decide (200 < (a3.size:Int))=true:=decide_eq_true h0
       have n5:decide (200 < a3.size)=true:=decide_eq_true (by omega)
       clear h0
       simp only [Option.some.injEq,Prod.mk.injEq] at H
       obtain ⟨rfl,rfl,rfl,rfl,rfl,rfl,rfl,rfl,rfl,rfl,rfl,rfl,rfl⟩:=H
       have t7:=g7.out
       have t8:=g8.out
       obtain ⟨t9,u0,u1⟩:=cells3 a8.out
       obtain ⟨u2,u3,u4⟩:=froz3 a8.out
       go_wp2_with (first|((with_reducible refine gate_callee (f:=11) rfl ?_);refine goesL_ (some 23) rfl rfl Try.func11 (by kernel_rfl) rfl #[.agg #[.int .i64 b3,.slice e1 b0.length e2,.slice e3 b1.length e4]] rfl tz0 ?_;(with_reducible refine (threshold_Valid.calls g0 b3 _ _ b0 _ _ b1 d1 _ ?side1 ?side2 ?side3 ?side4 k4.out).mono ?_);(case side1=>exact Kd.C_q (Kd.C_below i1.out HB.out));(case side2=>exact i2.out);(case side3=>exact Kd.C_q (Kd.C_below i3.out HB.out));(case side4=>exact i4.out);rintro e d5 ⟨rfl,hb⟩;refine ⟨_,rfl,?_⟩;refine ap3 (blk_below (blkP a8) hb) (blk_below (blkP a7) hb) (below_step (belowP HB) hb) ?_;clear a8 a7 HB;intro a8 a7 HB;have u5:d5.cell? ⟨a6,0,none⟩=some (.int .i64 0):=(blk_cell a7.out 0).trans rfl;have u6:d5.cell? ⟨a6,1,none⟩=some (.int .i64 0):=(blk_cell a7.out 1).trans rfl;have u7:d5.cell? ⟨a6,2,none⟩=some (.int .i64 0):=(blk_cell a7.out 2).trans rfl;have u9:d5.cell? ⟨a6,3,none⟩=some (.int .i64 0):=(blk_cell a7.out 3).trans rfl;have v0:d5.cell? ⟨a6,4,none⟩=some (.int .i64 0):=(blk_cell a7.out 4).trans rfl;have v1:d5.cell? ⟨a6,5,none⟩=some (.slice none 0 0):=(blk_cell a7.out 5).trans rfl;have v2:d5.cell? ⟨a6,6,none⟩=some (.slice none 0 0):=(blk_cell a7.out 6).trans rfl;have v3:d5.cell? ⟨a6,7,none⟩=some (.string (⟨#[]⟩:ByteArray)):=(blk_cell a7.out 7).trans rfl;have v4:d5.cell? ⟨a6,8,none⟩=some (.slice none 0 0):=(blk_cell a7.out 8).trans rfl;have v5:d5.cell? ⟨a6,9,none⟩=some (.slice none 0 0):=(blk_cell a7.out 9).trans rfl;have v6:d5.cell? ⟨a6,10,none⟩=some (.slice none 0 0):=(blk_cell a7.out 10).trans rfl;have v7:d5.cell? ⟨a6,11,none⟩=some (.slice none 0 0):=(blk_cell a7.out 11).trans rfl;have v8:=blk_frozen a7.out 0;have v9:=blk_frozen a7.out 1;have w0:=blk_frozen a7.out 2;have w1:=blk_frozen a7.out 3;have w2:=blk_frozen a7.out 4;have w3:=blk_frozen a7.out 5;have w4:=blk_frozen a7.out 6;have w5:=blk_frozen a7.out 7;have w6:=blk_frozen a7.out 8;have w7:=blk_frozen a7.out 9;have x2:=blk_frozen a7.out 10;have x4:=blk_frozen a7.out 11))
       refine bodyPost_ret (results_ct rfl _ _ a6 33 #[.int .i64 0,.int .i64 0,.int .i64 0,.int .i64 0,.int .i64 0,.slice none 0 0,.slice none 0 0,.string (⟨#[]⟩:ByteArray),.slice none 0 0,.slice none 0 0,.slice none 0 0,.slice none 0 0] (0,0) _ rfl (by refine blkQ ?_;refine blk_put (cs:=#[.int .i64 0,.int .i64 0,.int .i64 0,.int .i64 0,.int .i64 0,.slice none 0 0,.slice none 0 0,.string (⟨#[]⟩:ByteArray),.slice none 0 0,.slice none 0 0,.slice none 0 0,.slice none 0 0]) ?_ 11 _ rfl;refine blkQ ?_;refine blk_put (cs:=#[.int .i64 0,.int .i64 0,.int .i64 0,.int .i64 0,.int .i64 0,.slice none 0 0,.slice none 0 0,.string (⟨#[]⟩:ByteArray),.slice none 0 0,.slice none 0 0,.slice none 0 0,.slice none 0 0]) ?_ 10 _ rfl;refine blkQ ?_;refine blk_put (cs:=#[.int .i64 0,.int .i64 0,.int .i64 0,.int .i64 0,.int .i64 0,.slice none 0 0,.slice none 0 0,.string (⟨#[]⟩:ByteArray),.slice none 0 0,.slice none 0 0,.slice none 0 0,.slice none 0 0]) ?_ 9 _ rfl;refine blkQ ?_;refine blk_put (cs:=#[.int .i64 0,.int .i64 0,.int .i64 0,.int .i64 0,.int .i64 0,.slice none 0 0,.slice none 0 0,.string (⟨#[]⟩:ByteArray),.slice none 0 0,.slice none 0 0,.slice none 0 0,.slice none 0 0]) ?_ 8 _ rfl;refine blkQ ?_;refine blk_put (cs:=#[.int .i64 0,.int .i64 0,.int .i64 0,.int .i64 0,.int .i64 0,.slice none 0 0,.slice none 0 0,.string (⟨#[]⟩:ByteArray),.slice none 0 0,.slice none 0 0,.slice none 0 0,.slice none 0 0]) ?_ 7 _ rfl;refine blkQ ?_;refine blk_put (cs:=#[.int .i64 0,.int .i64 0,.int .i64 0,.int .i64 0,.int .i64 0,.slice none 0 0,.slice none 0 0,.string (⟨#[]⟩:ByteArray),.slice none 0 0,.slice none 0 0,.slice none 0 0,.slice none 0 0]) ?_ 6 _ rfl;refine blkQ ?_;refine blk_put (cs:=#[.int .i64 0,.int .i64 0,.int .i64 0,.int .i64 0,.int .i64 0,.slice none 0 0,.slice none 0 0,.string (⟨#[]⟩:ByteArray),.slice none 0 0,.slice none 0 0,.slice none 0 0,.slice none 0 0]) ?_ 5 _ rfl;refine blkQ ?_;refine blk_put (cs:=#[.int .i64 0,.int .i64 0,.int .i64 0,.int .i64 0,.int .i64 0,.slice none 0 0,.slice none 0 0,.string (⟨#[]⟩:ByteArray),.slice none 0 0,.slice none 0 0,.slice none 0 0,.slice none 0 0]) ?_ 4 _ rfl;refine blkQ ?_;refine blk_put (cs:=#[.int .i64 0,.int .i64 0,.int .i64 0,.int .i64 0,.int .i64 0,.slice none 0 0,.slice none 0 0,.string (⟨#[]⟩:ByteArray),.slice none 0 0,.slice none 0 0,.slice none 0 0,.slice none 0 0]) ?_ 3 _ rfl;refine blkQ ?_;refine blk_put (cs:=#[.int .i64 0,.int .i64 0,.int .i64 0,.int .i64 0,.int .i64 0,.slice none 0 0,.slice none 0 0,.string (⟨#[]⟩:ByteArray),.slice none 0 0,.slice none 0 0,.slice none 0 0,.slice none 0 0]) ?_ 2 _ rfl;refine blkQ ?_;refine blk_put (cs:=#[.int .i64 0,.int .i64 0,.int .i64 0,.int .i64 0,.int .i64 0,.slice none 0 0,.slice none 0 0,.string (⟨#[]⟩:ByteArray),.slice none 0 0,.slice none 0 0,.slice none 0 0,.slice none 0 0]) ?_ 1 _ rfl;refine blkQ ?_;refine blk_put (cs:=#[.int .i64 0,.int .i64 0,.int .i64 0,.int .i64 0,.int .i64 0,.slice none 0 0,.slice none 0 0,.string (⟨#[]⟩:ByteArray),.slice none 0 0,.slice none 0 0,.slice none 0 0,.slice none 0 0]) ?_ 0 _ rfl;refine blkQ ?_;exact a7.out) Try.underlying33 rfl (by kernel_rfl)) rfl ?_
       exact ⟨_,_,_,_,_,_,rE,by first|exact Kd.R_nil _ _ _ _ _|exact Kd.N_nil _ _ _ _ _|exact Kd.V_nil _ _ _ _ _|exact Kd.Q_nil _ _ _ _ _|exact Kd.S_nil _ _ _ _ _,by first|exact Kd.R_nil _ _ _ _ _|exact Kd.N_nil _ _ _ _ _|exact Kd.V_nil _ _ _ _ _|exact Kd.Q_nil _ _ _ _ _|exact Kd.S_nil _ _ _ _ _,by first|exact Kd.R_nil _ _ _ _ _|exact Kd.N_nil _ _ _ _ _|exact Kd.V_nil _ _ _ _ _|exact Kd.Q_nil _ _ _ _ _|exact Kd.S_nil _ _ _ _ _,by first|exact Kd.R_nil _ _ _ _ _|exact Kd.N_nil _ _ _ _ _|exact Kd.V_nil _ _ _ _ _|exact Kd.Q_nil _ _ _ _ _|exact Kd.S_nil _ _ _ _ _,by first|exact Kd.R_nil _ _ _ _ _|exact Kd.N_nil _ _ _ _ _|exact Kd.V_nil _ _ _ _ _|exact Kd.Q_nil _ _ _ _ _|exact Kd.S_nil _ _ _ _ _,by first|exact Kd.R_nil _ _ _ _ _|exact Kd.N_nil _ _ _ _ _|exact Kd.V_nil _ _ _ _ _|exact Kd.Q_nil _ _ _ _ _|exact Kd.S_nil _ _ _ _ _,by repeat (first|(with_reducible first|exact HB.out|apply below_alloc|apply pw_below_drewN|apply below_drew1|refine below_set ?_ f8.out|refine below_set ?_ f9.out)|exact HB.out)⟩
      ·rw [if_neg h0] at H
       have n4:decide (200 < (a3.size:Int))=false:=decide_eq_false h0
       have n5:decide (200 < a3.size)=false:=decide_eq_false (by omega)
       clear h0
       replace H:=Option.bind_eq_some_iff.mp H
       obtain ⟨⟨i7,i8,i9,j2,j3,j4,j5,j6,j7,j8,j9,k0⟩,l9,H⟩:=H
       replace H:((nomination_fresh.f g0 i7 i8 i9 j2 j3 j4 j5 j6 j7 j8 j9 k0).bind fun a9=>(some (a9.1,a9.2.1,a9.2.2.1,a9.2.2.2.1,a9.2.2.2.2.1,a9.2.2.2.2.2.1,a9.2.2.2.2.2.2.1,a9.2.2.2.2.2.2.2.1,a9.2.2.2.2.2.2.2.2.1,a9.2.2.2.2.2.2.2.2.2.1,a9.2.2.2.2.2.2.2.2.2.2.1,a9.2.2.2.2.2.2.2.2.2.2.2,0)))=some (r1,r2,r3,r4,r5,r6,r7,r8,r9,r10,r11,r12,r13):=H
       have n6:=Aside0.mk l9
       clear l9
       replace H:=Option.bind_eq_some_iff.mp H
       obtain ⟨⟨b5,b6,b7,b9,c0,c1,d0,d2,d6,e5,e6,e9⟩,m0,H⟩:=H
       replace H:(some (b5,b6,b7,b9,c0,c1,d0,d2,d6,e5,e6,e9,0))=some (r1,r2,r3,r4,r5,r6,r7,r8,r9,r10,r11,r12,r13):=H
       have n7:=Aside0.mk m0
       clear m0
       simp only [Option.some.injEq,Prod.mk.injEq] at H
       obtain ⟨rfl,rfl,rfl,rfl,rfl,rfl,rfl,rfl,rfl,rfl,rfl,rfl,rfl⟩:=H
       have x5:=g7.out
       have x6:=g8.out
       obtain ⟨x7,x8,x9⟩:=cells3 a8.out
       obtain ⟨y7,y8,y9⟩:=froz3 a8.out
       go_wp2_with (first|((with_reducible refine gate_callee (f:=11) rfl ?_);refine goesL_ (some 23) rfl rfl Try.func11 (by kernel_rfl) rfl #[.agg #[.int .i64 b3,.slice e1 b0.length e2,.slice e3 b1.length e4]] rfl tz0 ?_;(with_reducible refine (threshold_Valid.calls g0 b3 _ _ b0 _ _ b1 d1 _ ?side1 ?side2 ?side3 ?side4 k4.out).mono ?_);(case side1=>exact Kd.C_q (Kd.C_below i1.out HB.out));(case side2=>exact i2.out);(case side3=>exact Kd.C_q (Kd.C_below i3.out HB.out));(case side4=>exact i4.out);rintro e k5 ⟨rfl,hb⟩;refine ⟨_,rfl,?_⟩;refine ap3 (blk_below (blkP a8) hb) (blk_below (blkP a7) hb) (below_step (belowP HB) hb) ?_;clear a8 a7 HB;intro a8 a7 HB;have z0:k5.cell? ⟨b4,0,none⟩=some (.int .i64 b3):=(blk_cell a8.out 0).trans rfl;have z1:k5.cell? ⟨b4,1,none⟩=some (.slice e1 b0.length e2):=(blk_cell a8.out 1).trans rfl;have z2:k5.cell? ⟨b4,2,none⟩=some (.slice e3 b1.length e4):=(blk_cell a8.out 2).trans rfl;have z3:=blk_frozen a8.out 0;have z4:=blk_frozen a8.out 1;have z5:=blk_frozen a8.out 2)|((with_reducible refine gate_callee (f:=13) rfl ?_);refine goesL_ (some 37) rfl rfl Try.func13 (by kernel_rfl) rfl #[.agg #[.int .i64 a0,.int .i64 a1,.int .i64 1,.int .i64 1,.int .i64 b3,.slice e1 b0.length e2,.slice e3 b1.length e4,.string a3,.slice none 0 0,.slice none 0 0,.slice none 0 0,.slice none 0 0]] rfl tz0 ?_;(refine (nomination_settled.calls g0 a0 a1 1 1 b3 (fun k_=>k_ < w.heap.size) _ _ b0 (fun k_=>k_ < w.heap.size) _ _ b1 a3 (fun k_=>False) _ _ ([]:List ByteArray) (fun k_=>False) _ _ ([]:List ByteArray) (fun k_=>False) _ _ ([]:List ByteArray) (fun k_=>False) _ _ ([]:List (S48)) i7 i8 i9 j2 j3 j4 j5 j6 j7 j8 j9 k0 _ ?side1 ?side2 ?side3 ?side4 ?side5 ?side6 n6.out).mono ?_);(case side1=>exact Kd.V_mk i2.out (Kd.F_below (Kd.C_F (Kd.heap_int .i64) i1.out) (belowP HB)));(case side2=>exact Kd.V_mk i4.out (Kd.F_below (Kd.C_F k30_heap i3.out) (belowP HB)));(case side3=>exact Kd.V_nil _ _ _ _ _);(case side4=>exact Kd.V_nil _ _ _ _ _);(case side5=>exact Kd.V_nil _ _ _ _ _);(case side6=>exact Kd.V_nil _ _ _ _ _);rintro e z6 ⟨z7,z8,z9,A0,A1,A2,rfl,f0,f1,f2,f3,f4,f5,hb⟩;refine ⟨_,rfl,?_⟩;refine ap9 (Kd.V_lower (Kd.V_mono (ok':=fun k_=>k_≠b4∧k_≠a6) f0 (fun k_ hk_=>⟨Or.elim hk_ (fun hs_=>Or.elim hs_ (fun hs_=>fun e_=>Nat.not_le.2 hs_ (by rw [e_];exact GW516.out)) (fun hs_=>Or.elim hs_ (fun hs_=>fun e_=>Nat.not_le.2 hs_ (by rw [e_];exact GW516.out)) (fun hs_=>Or.elim hs_ (fun hs_=>(hs_).elim) (fun hs_=>Or.elim hs_ (fun hs_=>(hs_).elim) (fun hs_=>Or.elim hs_ (fun hs_=>(hs_).elim) (fun hs_=>(hs_).elim)))))) (fun hn_=>(Kd.freshB (blkP a8) k_ hn_)),Or.elim hk_ (fun hs_=>Or.elim hs_ (fun hs_=>fun e_=>Nat.not_le.2 hs_ (by rw [e_];exact GW517.out)) (fun hs_=>Or.elim hs_ (fun hs_=>fun e_=>Nat.not_le.2 hs_ (by rw [e_];exact GW517.out)) (fun hs_=>Or.elim hs_ (fun hs_=>(hs_).elim) (fun hs_=>Or.elim hs_ (fun hs_=>(hs_).elim) (fun hs_=>Or.elim hs_ (fun hs_=>(hs_).elim) (fun hs_=>(hs_).elim)))))) (fun hn_=>(Kd.freshB (blkP a7) k_ hn_))⟩)) (below_size (belowP HB))) (Kd.V_lower (Kd.V_mono (ok':=fun k_=>k_≠b4∧k_≠a6) f1 (fun k_ hk_=>⟨Or.elim hk_ (fun hs_=>Or.elim hs_ (fun hs_=>fun e_=>Nat.not_le.2 hs_ (by rw [e_];exact GW516.out)) (fun hs_=>Or.elim hs_ (fun hs_=>fun e_=>Nat.not_le.2 hs_ (by rw [e_];exact GW516.out)) (fun hs_=>Or.elim hs_ (fun hs_=>(hs_).elim) (fun hs_=>Or.elim hs_ (fun hs_=>(hs_).elim) (fun hs_=>Or.elim hs_ (fun hs_=>(hs_).elim) (fun hs_=>(hs_).elim)))))) (fun hn_=>(Kd.freshB (blkP a8) k_ hn_)),Or.elim hk_ (fun hs_=>Or.elim hs_ (fun hs_=>fun e_=>Nat.not_le.2 hs_ (by rw [e_];exact GW517.out)) (fun hs_=>Or.elim hs_ (fun hs_=>fun e_=>Nat.not_le.2 hs_ (by rw [e_];exact GW517.out)) (fun hs_=>Or.elim hs_ (fun hs_=>(hs_).elim) (fun hs_=>Or.elim hs_ (fun hs_=>(hs_).elim) (fun hs_=>Or.elim hs_ (fun hs_=>(hs_).elim) (fun hs_=>(hs_).elim)))))) (fun hn_=>(Kd.freshB (blkP a7) k_ hn_))⟩)) (below_size (belowP HB))) (Kd.V_lower (Kd.V_mono (ok':=fun k_=>k_≠b4∧k_≠a6) f2 (fun k_ hk_=>⟨Or.elim hk_ (fun hs_=>Or.elim hs_ (fun hs_=>fun e_=>Nat.not_le.2 hs_ (by rw [e_];exact GW516.out)) (fun hs_=>Or.elim hs_ (fun hs_=>fun e_=>Nat.not_le.2 hs_ (by rw [e_];exact GW516.out)) (fun hs_=>Or.elim hs_ (fun hs_=>(hs_).elim) (fun hs_=>Or.elim hs_ (fun hs_=>(hs_).elim) (fun hs_=>Or.elim hs_ (fun hs_=>(hs_).elim) (fun hs_=>(hs_).elim)))))) (fun hn_=>(Kd.freshB (blkP a8) k_ hn_)),Or.elim hk_ (fun hs_=>Or.elim hs_ (fun hs_=>fun e_=>Nat.not_le.2 hs_ (by rw [e_];exact GW517.out)) (fun hs_=>Or.elim hs_ (fun hs_=>fun e_=>Nat.not_le.2 hs_ (by rw [e_];exact GW517.out)) (fun hs_=>Or.elim hs_ (fun hs_=>(hs_).elim) (fun hs_=>Or.elim hs_ (fun hs_=>(hs_).elim) (fun hs_=>Or.elim hs_ (fun hs_=>(hs_).elim) (fun hs_=>(hs_).elim)))))) (fun hn_=>(Kd.freshB (blkP a7) k_ hn_))⟩)) (below_size (belowP HB))) (Kd.V_lower (Kd.V_mono (ok':=fun k_=>k_≠b4∧k_≠a6) f3 (fun k_ hk_=>⟨Or.elim hk_ (fun hs_=>Or.elim hs_ (fun hs_=>fun e_=>Nat.not_le.2 hs_ (by rw [e_];exact GW516.out)) (fun hs_=>Or.elim hs_ (fun hs_=>fun e_=>Nat.not_le.2 hs_ (by rw [e_];exact GW516.out)) (fun hs_=>Or.elim hs_ (fun hs_=>(hs_).elim) (fun hs_=>Or.elim hs_ (fun hs_=>(hs_).elim) (fun hs_=>Or.elim hs_ (fun hs_=>(hs_).elim) (fun hs_=>(hs_).elim)))))) (fun hn_=>(Kd.freshB (blkP a8) k_ hn_)),Or.elim hk_ (fun hs_=>Or.elim hs_ (fun hs_=>fun e_=>Nat.not_le.2 hs_ (by rw [e_];exact GW517.out)) (fun hs_=>Or.elim hs_ (fun hs_=>fun e_=>Nat.not_le.2 hs_ (by rw [e_];exact GW517.out)) (fun hs_=>Or.elim hs_ (fun hs_=>(hs_).elim) (fun hs_=>Or.elim hs_ (fun hs_=>(hs_).elim) (fun hs_=>Or.elim hs_ (fun hs_=>(hs_).elim) (fun hs_=>(hs_).elim)))))) (fun hn_=>(Kd.freshB (blkP a7) k_ hn_))⟩)) (below_size (belowP HB))) (Kd.V_lower (Kd.V_mono (ok':=fun k_=>k_≠b4∧k_≠a6) f4 (fun k_ hk_=>⟨Or.elim hk_ (fun hs_=>Or.elim hs_ (fun hs_=>fun e_=>Nat.not_le.2 hs_ (by rw [e_];exact GW516.out)) (fun hs_=>Or.elim hs_ (fun hs_=>fun e_=>Nat.not_le.2 hs_ (by rw [e_];exact GW516.out)) (fun hs_=>Or.elim hs_ (fun hs_=>(hs_).elim) (fun hs_=>Or.elim hs_ (fun hs_=>(hs_).elim) (fun hs_=>Or.elim hs_ (fun hs_=>(hs_).elim) (fun hs_=>(hs_).elim)))))) (fun hn_=>(Kd.freshB (blkP a8) k_ hn_)),Or.elim hk_ (fun hs_=>Or.elim hs_ (fun hs_=>fun e_=>Nat.not_le.2 hs_ (by rw [e_];exact GW517.out)) (fun hs_=>Or.elim hs_ (fun hs_=>fun e_=>Nat.not_le.2 hs_ (by rw [e_];exact GW517.out)) (fun hs_=>Or.elim hs_ (fun hs_=>(hs_).elim) (fun hs_=>Or.elim hs_ (fun hs_=>(hs_).elim) (fun hs_=>Or.elim hs_ (fun hs_=>(hs_).elim) (fun hs_=>(hs_).elim)))))) (fun hn_=>(Kd.freshB (blkP a7) k_ hn_))⟩)) (below_size (belowP HB))) (Kd.V_lower (Kd.V_mono (ok':=fun k_=>k_≠b4∧k_≠a6) f5 (fun k_ hk_=>⟨Or.elim hk_ (fun hs_=>Or.elim hs_ (fun hs_=>fun e_=>Nat.not_le.2 hs_ (by rw [e_];exact GW516.out)) (fun hs_=>Or.elim hs_ (fun hs_=>fun e_=>Nat.not_le.2 hs_ (by rw [e_];exact GW516.out)) (fun hs_=>Or.elim hs_ (fun hs_=>(hs_).elim) (fun hs_=>Or.elim hs_ (fun hs_=>(hs_).elim) (fun hs_=>Or.elim hs_ (fun hs_=>(hs_).elim) (fun hs_=>(hs_).elim)))))) (fun hn_=>(Kd.freshB (blkP a8) k_ hn_)),Or.elim hk_ (fun hs_=>Or.elim hs_ (fun hs_=>fun e_=>Nat.not_le.2 hs_ (by rw [e_];exact GW517.out)) (fun hs_=>Or.elim hs_ (fun hs_=>fun e_=>Nat.not_le.2 hs_ (by rw [e_];exact GW517.out)) (fun hs_=>Or.elim hs_ (fun hs_=>(hs_).elim) (fun hs_=>Or.elim hs_ (fun hs_=>(hs_).elim) (fun hs_=>Or.elim hs_ (fun hs_=>(hs_).elim) (fun hs_=>(hs_).elim)))))) (fun hn_=>(Kd.freshB (blkP a7) k_ hn_))⟩)) (below_size (belowP HB))) (blk_below (blkP a8) hb) (blk_below (blkP a7) hb) (below_step (belowP HB) hb) ?_;clear a8 a7 HB;intro h1 h2 h3 h4 h5 h6 a8 a7 HB;obtain ⟨n8,n9,o0⟩:=Kd.V_slice h1.out;subst o0;obtain ⟨o1,o2,o3⟩:=Kd.V_slice h2.out;subst o3;obtain ⟨o4,o5,o6⟩:=Kd.V_slice h3.out;subst o6;obtain ⟨o7,o8,o9⟩:=Kd.V_slice h4.out;subst o9;obtain ⟨p0,p1,p2⟩:=Kd.V_slice h5.out;subst p2;obtain ⟨p3,p4,p5⟩:=Kd.V_slice h6.out;subst p5)|((with_reducible refine gate_callee (f:=12) rfl ?_);refine goesL_ (some 38) rfl rfl Try.func12 (by kernel_rfl) rfl #[.agg #[.int .i64 i7,.int .i64 i8,.int .i64 i9,.int .i64 j2,.int .i64 j3,.slice n8 j4.length n9,.slice o1 j5.length o2,.string j6,.slice o4 j7.length o5,.slice o7 j8.length o8,.slice p0 j9.length p1,.slice p3 k0.length p4]] rfl tz0 ?_;(with_reducible refine (nomination_fresh.calls g0 i7 i8 i9 j2 j3 _ _ j4 _ _ j5 j6 _ _ j7 _ _ j8 _ _ j9 _ _ k0 b5 b6 b7 b9 c0 c1 d0 d2 d6 e5 e6 e9 _ ?side1 ?side2 ?side3 ?side4 ?side5 ?side6 ?side7 ?side8 ?side9 ?side10 ?side11 ?side12 n7.out).mono ?_);(case side1=>exact Kd.C_q ((Kd.V_reads' h1.out).2.2));(case side2=>exact (Kd.V_reads' h1.out).2.1);(case side3=>exact Kd.C_q ((Kd.V_reads' h2.out).2.2));(case side4=>exact (Kd.V_reads' h2.out).2.1);(case side5=>exact Kd.C_q ((Kd.V_reads' h3.out).2.2));(case side6=>exact (Kd.V_reads' h3.out).2.1);(case side7=>exact Kd.C_q ((Kd.V_reads' h4.out).2.2));(case side8=>exact (Kd.V_reads' h4.out).2.1);(case side9=>exact Kd.C_q ((Kd.V_reads' h5.out).2.2));(case side10=>exact (Kd.V_reads' h5.out).2.1);(case side11=>exact Kd.C_q ((Kd.V_reads' h6.out).2.2));(case side12=>exact (Kd.V_reads' h6.out).2.1);rintro e d7 ⟨A3,A4,A6,A7,A8,A9,rfl,f0,f1,f2,f3,f4,f5,hb⟩;refine ⟨_,rfl,?_⟩;refine ap15 (Kd.V_mono (Kd.V_told (Kd.V_told (Kd.V_told (Kd.V_told (Kd.V_told (Kd.V_told (Kd.V_old (by (with_reducible repeat (first|apply Kd.V_alloc|apply Kd.V_drewN|apply Kd.V_drew));exact h1.out) hb) (Kd.R_base f0)) (Kd.R_base f1)) (Kd.R_base f2)) (Kd.R_base f3)) (Kd.R_base f4)) (Kd.R_base f5)) (fun _ h_=>h_.1)) (Kd.V_mono (Kd.V_told (Kd.V_told (Kd.V_told (Kd.V_told (Kd.V_told (Kd.V_told (Kd.V_old (by (with_reducible repeat (first|apply Kd.V_alloc|apply Kd.V_drewN|apply Kd.V_drew));exact h2.out) hb) (Kd.R_base f0)) (Kd.R_base f1)) (Kd.R_base f2)) (Kd.R_base f3)) (Kd.R_base f4)) (Kd.R_base f5)) (fun _ h_=>h_.1)) (Kd.V_mono (Kd.V_told (Kd.V_told (Kd.V_told (Kd.V_told (Kd.V_told (Kd.V_told (Kd.V_old (by (with_reducible repeat (first|apply Kd.V_alloc|apply Kd.V_drewN|apply Kd.V_drew));exact h3.out) hb) (Kd.R_base f0)) (Kd.R_base f1)) (Kd.R_base f2)) (Kd.R_base f3)) (Kd.R_base f4)) (Kd.R_base f5)) (fun _ h_=>h_.1)) (Kd.V_mono (Kd.V_told (Kd.V_told (Kd.V_told (Kd.V_told (Kd.V_told (Kd.V_told (Kd.V_old (by (with_reducible repeat (first|apply Kd.V_alloc|apply Kd.V_drewN|apply Kd.V_drew));exact h4.out) hb) (Kd.R_base f0)) (Kd.R_base f1)) (Kd.R_base f2)) (Kd.R_base f3)) (Kd.R_base f4)) (Kd.R_base f5)) (fun _ h_=>h_.1)) (Kd.V_mono (Kd.V_told (Kd.V_told (Kd.V_told (Kd.V_told (Kd.V_told (Kd.V_told (Kd.V_old (by (with_reducible repeat (first|apply Kd.V_alloc|apply Kd.V_drewN|apply Kd.V_drew));exact h5.out) hb) (Kd.R_base f0)) (Kd.R_base f1)) (Kd.R_base f2)) (Kd.R_base f3)) (Kd.R_base f4)) (Kd.R_base f5)) (fun _ h_=>h_.1)) (Kd.V_mono (Kd.V_told (Kd.V_told (Kd.V_told (Kd.V_told (Kd.V_told (Kd.V_told (Kd.V_old (by (with_reducible repeat (first|apply Kd.V_alloc|apply Kd.V_drewN|apply Kd.V_drew));exact h6.out) hb) (Kd.R_base f0)) (Kd.R_base f1)) (Kd.R_base f2)) (Kd.R_base f3)) (Kd.R_base f4)) (Kd.R_base f5)) (fun _ h_=>h_.1)) (Kd.R_lower f0 (below_size (belowP HB))) (Kd.R_lower (Kd.R_newB f1 (blkP a8)) (below_size (belowP HB))) (Kd.R_lower f2 (below_size (belowP HB))) (Kd.R_lower f3 (below_size (belowP HB))) (Kd.R_lower f4 (below_size (belowP HB))) (Kd.R_lower (Kd.R_newB f5 (blkP a8)) (below_size (belowP HB))) (blk_below (blkP a8) hb) (blk_below (blkP a7) hb) (below_step (belowP HB) hb) ?_;clear h1 h2 h3 h4 h5 h6 a8 a7 HB;intro h1 h2 h3 h4 h5 h6 m1 m2 m3 m4 m5 m6 a8 a7 HB;have B0:d7.cell? ⟨a6,0,none⟩=some (.int .i64 0):=(blk_cell a7.out 0).trans rfl;have B2:d7.cell? ⟨a6,1,none⟩=some (.int .i64 0):=(blk_cell a7.out 1).trans rfl;have C0:d7.cell? ⟨a6,2,none⟩=some (.int .i64 0):=(blk_cell a7.out 2).trans rfl;have C1:d7.cell? ⟨a6,3,none⟩=some (.int .i64 0):=(blk_cell a7.out 3).trans rfl;have C2:d7.cell? ⟨a6,4,none⟩=some (.int .i64 0):=(blk_cell a7.out 4).trans rfl;have C3:d7.cell? ⟨a6,5,none⟩=some (.slice none 0 0):=(blk_cell a7.out 5).trans rfl;have C4:d7.cell? ⟨a6,6,none⟩=some (.slice none 0 0):=(blk_cell a7.out 6).trans rfl;have C5:d7.cell? ⟨a6,7,none⟩=some (.string (⟨#[]⟩:ByteArray)):=(blk_cell a7.out 7).trans rfl;have C6:d7.cell? ⟨a6,8,none⟩=some (.slice none 0 0):=(blk_cell a7.out 8).trans rfl;have C7:d7.cell? ⟨a6,9,none⟩=some (.slice none 0 0):=(blk_cell a7.out 9).trans rfl;have C8:d7.cell? ⟨a6,10,none⟩=some (.slice none 0 0):=(blk_cell a7.out 10).trans rfl;have C9:d7.cell? ⟨a6,11,none⟩=some (.slice none 0 0):=(blk_cell a7.out 11).trans rfl;have D0:=blk_frozen a7.out 0;have D1:=blk_frozen a7.out 1;have D2:=blk_frozen a7.out 2;have D3:=blk_frozen a7.out 3;have D4:=blk_frozen a7.out 4;have D5:=blk_frozen a7.out 5;have D6:=blk_frozen a7.out 6;have D7:=blk_frozen a7.out 7;have D8:=blk_frozen a7.out 8;have D9:=blk_frozen a7.out 9;have E0:=blk_frozen a7.out 10;have E1:=blk_frozen a7.out 11;obtain ⟨d3,d4,p6⟩:=Kd.R_slice m1.out;subst p6;obtain ⟨d8,d9,p7⟩:=Kd.R_slice m2.out;subst p7;obtain ⟨e7,e8,p8⟩:=Kd.R_slice m3.out;subst p8;obtain ⟨f6,f7,p9⟩:=Kd.R_slice m4.out;subst p9;obtain ⟨g1,g2,q0⟩:=Kd.R_slice m5.out;subst q0;obtain ⟨g4,g5,q1⟩:=Kd.R_slice m6.out;subst q1))
       refine bodyPost_ret (results_ct rfl _ _ a6 33 #[.int .i64 b5,.int .i64 b6,.int .i64 b7,.int .i64 b9,.int .i64 c0,.slice d3 c1.length d4,.slice d8 d0.length d9,.string d2,.slice e7 d6.length e8,.slice f6 e5.length f7,.slice g1 e6.length g2,.slice g4 e9.length g5] (0,0) _ rfl (by refine blkQ ?_;refine blk_put (cs:=#[.int .i64 b5,.int .i64 b6,.int .i64 b7,.int .i64 b9,.int .i64 c0,.slice d3 c1.length d4,.slice d8 d0.length d9,.string d2,.slice e7 d6.length e8,.slice f6 e5.length f7,.slice g1 e6.length g2,.slice none 0 0]) ?_ 11 _ rfl;refine blkQ ?_;refine blk_put (cs:=#[.int .i64 b5,.int .i64 b6,.int .i64 b7,.int .i64 b9,.int .i64 c0,.slice d3 c1.length d4,.slice d8 d0.length d9,.string d2,.slice e7 d6.length e8,.slice f6 e5.length f7,.slice none 0 0,.slice none 0 0]) ?_ 10 _ rfl;refine blkQ ?_;refine blk_put (cs:=#[.int .i64 b5,.int .i64 b6,.int .i64 b7,.int .i64 b9,.int .i64 c0,.slice d3 c1.length d4,.slice d8 d0.length d9,.string d2,.slice e7 d6.length e8,.slice none 0 0,.slice none 0 0,.slice none 0 0]) ?_ 9 _ rfl;refine blkQ ?_;refine blk_put (cs:=#[.int .i64 b5,.int .i64 b6,.int .i64 b7,.int .i64 b9,.int .i64 c0,.slice d3 c1.length d4,.slice d8 d0.length d9,.string d2,.slice none 0 0,.slice none 0 0,.slice none 0 0,.slice none 0 0]) ?_ 8 _ rfl;refine blkQ ?_;refine blk_put (cs:=#[.int .i64 b5,.int .i64 b6,.int .i64 b7,.int .i64 b9,.int .i64 c0,.slice d3 c1.length d4,.slice d8 d0.length d9,.string (⟨#[]⟩:ByteArray),.slice none 0 0,.slice none 0 0,.slice none 0 0,.slice none 0 0]) ?_ 7 _ rfl;refine blkQ ?_;refine blk_put (cs:=#[.int .i64 b5,.int .i64 b6,.int .i64 b7,.int .i64 b9,.int .i64 c0,.slice d3 c1.length d4,.slice none 0 0,.string (⟨#[]⟩:ByteArray),.slice none 0 0,.slice none 0 0,.slice none 0 0,.slice none 0 0]) ?_ 6 _ rfl;refine blkQ ?_;refine blk_put (cs:=#[.int .i64 b5,.int .i64 b6,.int .i64 b7,.int .i64 b9,.int .i64 c0,.slice none 0 0,.slice none 0 0,.string (⟨#[]⟩:ByteArray),.slice none 0 0,.slice none 0 0,.slice none 0 0,.slice none 0 0]) ?_ 5 _ rfl;refine blkQ ?_;refine blk_put (cs:=#[.int .i64 b5,.int .i64 b6,.int .i64 b7,.int .i64 b9,.int .i64 0,.slice none 0 0,.slice none 0 0,.string (⟨#[]⟩:ByteArray),.slice none 0 0,.slice none 0 0,.slice none 0 0,.slice none 0 0]) ?_ 4 _ rfl;refine blkQ ?_;refine blk_put (cs:=#[.int .i64 b5,.int .i64 b6,.int .i64 b7,.int .i64 0,.int .i64 0,.slice none 0 0,.slice none 0 0,.string (⟨#[]⟩:ByteArray),.slice none 0 0,.slice none 0 0,.slice none 0 0,.slice none 0 0]) ?_ 3 _ rfl;refine blkQ ?_;refine blk_put (cs:=#[.int .i64 b5,.int .i64 b6,.int .i64 0,.int .i64 0,.int .i64 0,.slice none 0 0,.slice none 0 0,.string (⟨#[]⟩:ByteArray),.slice none 0 0,.slice none 0 0,.slice none 0 0,.slice none 0 0]) ?_ 2 _ rfl;refine blkQ ?_;refine blk_put (cs:=#[.int .i64 b5,.int .i64 0,.int .i64 0,.int .i64 0,.int .i64 0,.slice none 0 0,.slice none 0 0,.string (⟨#[]⟩:ByteArray),.slice none 0 0,.slice none 0 0,.slice none 0 0,.slice none 0 0]) ?_ 1 _ rfl;refine blkQ ?_;refine blk_put (cs:=#[.int .i64 0,.int .i64 0,.int .i64 0,.int .i64 0,.int .i64 0,.slice none 0 0,.slice none 0 0,.string (⟨#[]⟩:ByteArray),.slice none 0 0,.slice none 0 0,.slice none 0 0,.slice none 0 0]) ?_ 0 _ rfl;refine blkQ ?_;exact a7.out) Try.underlying33 rfl (by kernel_rfl)) rfl ?_
       exact ⟨_,_,_,_,_,_,rE,by (with_reducible repeat (first|apply Kd.R_alloc|apply Kd.R_drewN|apply Kd.R_drew));exact Kd.R_mono (Kd.R_far (p:=⟨a6,11,none⟩) (Kd.R_far (p:=⟨a6,10,none⟩) (Kd.R_far (p:=⟨a6,9,none⟩) (Kd.R_far (p:=⟨a6,8,none⟩) (Kd.R_far (p:=⟨a6,7,none⟩) (Kd.R_far (p:=⟨a6,6,none⟩) (Kd.R_far (p:=⟨a6,5,none⟩) (Kd.R_far (p:=⟨a6,4,none⟩) (Kd.R_far (p:=⟨a6,3,none⟩) (Kd.R_far (p:=⟨a6,2,none⟩) (Kd.R_far (p:=⟨a6,1,none⟩) (Kd.R_far (p:=⟨a6,0,none⟩) (Kd.R_types m1.out a7.out (by decide)) (fun _ hk=>hk.2) (.int .i64 b5)) (fun _ hk=>hk.2) (.int .i64 b6)) (fun _ hk=>hk.2) (.int .i64 b7)) (fun _ hk=>hk.2) (.int .i64 b9)) (fun _ hk=>hk.2) (.int .i64 c0)) (fun _ hk=>hk.2) (.slice d3 c1.length d4)) (fun _ hk=>hk.2) (.slice d8 d0.length d9)) (fun _ hk=>hk.2) (.string d2)) (fun _ hk=>hk.2) (.slice e7 d6.length e8)) (fun _ hk=>hk.2) (.slice f6 e5.length f7)) (fun _ hk=>hk.2) (.slice g1 e6.length g2)) (fun _ hk=>hk.2) (.slice g4 e9.length g5)) (fun _ hk=>trivial),by (with_reducible repeat (first|apply Kd.R_alloc|apply Kd.R_drewN|apply Kd.R_drew));exact Kd.R_mono (Kd.R_far (p:=⟨a6,11,none⟩) (Kd.R_far (p:=⟨a6,10,none⟩) (Kd.R_far (p:=⟨a6,9,none⟩) (Kd.R_far (p:=⟨a6,8,none⟩) (Kd.R_far (p:=⟨a6,7,none⟩) (Kd.R_far (p:=⟨a6,6,none⟩) (Kd.R_far (p:=⟨a6,5,none⟩) (Kd.R_far (p:=⟨a6,4,none⟩) (Kd.R_far (p:=⟨a6,3,none⟩) (Kd.R_far (p:=⟨a6,2,none⟩) (Kd.R_far (p:=⟨a6,1,none⟩) (Kd.R_far (p:=⟨a6,0,none⟩) (Kd.R_types m2.out a7.out (by decide)) (fun _ hk=>hk.2) (.int .i64 b5)) (fun _ hk=>hk.2) (.int .i64 b6)) (fun _ hk=>hk.2) (.int .i64 b7)) (fun _ hk=>hk.2) (.int .i64 b9)) (fun _ hk=>hk.2) (.int .i64 c0)) (fun _ hk=>hk.2) (.slice d3 c1.length d4)) (fun _ hk=>hk.2) (.slice d8 d0.length d9)) (fun _ hk=>hk.2) (.string d2)) (fun _ hk=>hk.2) (.slice e7 d6.length e8)) (fun _ hk=>hk.2) (.slice f6 e5.length f7)) (fun _ hk=>hk.2) (.slice g1 e6.length g2)) (fun _ hk=>hk.2) (.slice g4 e9.length g5)) (fun _ hk=>hk.1.1),by (with_reducible repeat (first|apply Kd.R_alloc|apply Kd.R_drewN|apply Kd.R_drew));exact Kd.R_mono (Kd.R_far (p:=⟨a6,11,none⟩) (Kd.R_far (p:=⟨a6,10,none⟩) (Kd.R_far (p:=⟨a6,9,none⟩) (Kd.R_far (p:=⟨a6,8,none⟩) (Kd.R_far (p:=⟨a6,7,none⟩) (Kd.R_far (p:=⟨a6,6,none⟩) (Kd.R_far (p:=⟨a6,5,none⟩) (Kd.R_far (p:=⟨a6,4,none⟩) (Kd.R_far (p:=⟨a6,3,none⟩) (Kd.R_far (p:=⟨a6,2,none⟩) (Kd.R_far (p:=⟨a6,1,none⟩) (Kd.R_far (p:=⟨a6,0,none⟩) (Kd.R_types m3.out a7.out (by decide)) (fun _ hk=>hk.2) (.int .i64 b5)) (fun _ hk=>hk.2) (.int .i64 b6)) (fun _ hk=>hk.2) (.int .i64 b7)) (fun _ hk=>hk.2) (.int .i64 b9)) (fun _ hk=>hk.2) (.int .i64 c0)) (fun _ hk=>hk.2) (.slice d3 c1.length d4)) (fun _ hk=>hk.2) (.slice d8 d0.length d9)) (fun _ hk=>hk.2) (.string d2)) (fun _ hk=>hk.2) (.slice e7 d6.length e8)) (fun _ hk=>hk.2) (.slice f6 e5.length f7)) (fun _ hk=>hk.2) (.slice g1 e6.length g2)) (fun _ hk=>hk.2) (.slice g4 e9.length g5)) (fun _ hk=>⟨hk.1.1,hk.1.2⟩),by (with_reducible repeat (first|apply Kd.R_alloc|apply Kd.R_drewN|apply Kd.R_drew));exact Kd.R_mono (Kd.R_far (p:=⟨a6,11,none⟩) (Kd.R_far (p:=⟨a6,10,none⟩) (Kd.R_far (p:=⟨a6,9,none⟩) (Kd.R_far (p:=⟨a6,8,none⟩) (Kd.R_far (p:=⟨a6,7,none⟩) (Kd.R_far (p:=⟨a6,6,none⟩) (Kd.R_far (p:=⟨a6,5,none⟩) (Kd.R_far (p:=⟨a6,4,none⟩) (Kd.R_far (p:=⟨a6,3,none⟩) (Kd.R_far (p:=⟨a6,2,none⟩) (Kd.R_far (p:=⟨a6,1,none⟩) (Kd.R_far (p:=⟨a6,0,none⟩) (Kd.R_types m4.out a7.out (by decide)) (fun _ hk=>hk.2) (.int .i64 b5)) (fun _ hk=>hk.2) (.int .i64 b6)) (fun _ hk=>hk.2) (.int .i64 b7)) (fun _ hk=>hk.2) (.int .i64 b9)) (fun _ hk=>hk.2) (.int .i64 c0)) (fun _ hk=>hk.2) (.slice d3 c1.length d4)) (fun _ hk=>hk.2) (.slice d8 d0.length d9)) (fun _ hk=>hk.2) (.string d2)) (fun _ hk=>hk.2) (.slice e7 d6.length e8)) (fun _ hk=>hk.2) (.slice f6 e5.length f7)) (fun _ hk=>hk.2) (.slice g1 e6.length g2)) (fun _ hk=>hk.2) (.slice g4 e9.length g5)) (fun _ hk=>⟨hk.1.1,hk.1.2⟩),by (with_reducible repeat (first|apply Kd.R_alloc|apply Kd.R_drewN|apply Kd.R_drew));exact Kd.R_mono (Kd.R_far (p:=⟨a6,11,none⟩) (Kd.R_far (p:=⟨a6,10,none⟩) (Kd.R_far (p:=⟨a6,9,none⟩) (Kd.R_far (p:=⟨a6,8,none⟩) (Kd.R_far (p:=⟨a6,7,none⟩) (Kd.R_far (p:=⟨a6,6,none⟩) (Kd.R_far (p:=⟨a6,5,none⟩) (Kd.R_far (p:=⟨a6,4,none⟩) (Kd.R_far (p:=⟨a6,3,none⟩) (Kd.R_far (p:=⟨a6,2,none⟩) (Kd.R_far (p:=⟨a6,1,none⟩) (Kd.R_far (p:=⟨a6,0,none⟩) (Kd.R_types m5.out a7.out (by decide)) (fun _ hk=>hk.2) (.int .i64 b5)) (fun _ hk=>hk.2) (.int .i64 b6)) (fun _ hk=>hk.2) (.int .i64 b7)) (fun _ hk=>hk.2) (.int .i64 b9)) (fun _ hk=>hk.2) (.int .i64 c0)) (fun _ hk=>hk.2) (.slice d3 c1.length d4)) (fun _ hk=>hk.2) (.slice d8 d0.length d9)) (fun _ hk=>hk.2) (.string d2)) (fun _ hk=>hk.2) (.slice e7 d6.length e8)) (fun _ hk=>hk.2) (.slice f6 e5.length f7)) (fun _ hk=>hk.2) (.slice g1 e6.length g2)) (fun _ hk=>hk.2) (.slice g4 e9.length g5)) (fun _ hk=>⟨hk.1.1,hk.1.2⟩),by (with_reducible repeat (first|apply Kd.R_alloc|apply Kd.R_drewN|apply Kd.R_drew));exact Kd.R_mono (Kd.R_far (p:=⟨a6,11,none⟩) (Kd.R_far (p:=⟨a6,10,none⟩) (Kd.R_far (p:=⟨a6,9,none⟩) (Kd.R_far (p:=⟨a6,8,none⟩) (Kd.R_far (p:=⟨a6,7,none⟩) (Kd.R_far (p:=⟨a6,6,none⟩) (Kd.R_far (p:=⟨a6,5,none⟩) (Kd.R_far (p:=⟨a6,4,none⟩) (Kd.R_far (p:=⟨a6,3,none⟩) (Kd.R_far (p:=⟨a6,2,none⟩) (Kd.R_far (p:=⟨a6,1,none⟩) (Kd.R_far (p:=⟨a6,0,none⟩) (Kd.R_types m6.out a7.out (by decide)) (fun _ hk=>hk.2) (.int .i64 b5)) (fun _ hk=>hk.2) (.int .i64 b6)) (fun _ hk=>hk.2) (.int .i64 b7)) (fun _ hk=>hk.2) (.int .i64 b9)) (fun _ hk=>hk.2) (.int .i64 c0)) (fun _ hk=>hk.2) (.slice d3 c1.length d4)) (fun _ hk=>hk.2) (.slice d8 d0.length d9)) (fun _ hk=>hk.2) (.string d2)) (fun _ hk=>hk.2) (.slice e7 d6.length e8)) (fun _ hk=>hk.2) (.slice f6 e5.length f7)) (fun _ hk=>hk.2) (.slice g1 e6.length g2)) (fun _ hk=>hk.2) (.slice g4 e9.length g5)) (fun _ hk=>⟨hk.1.1.1,⟨hk.1.1.2.1,⟨hk.1.1.2.2.1,⟨hk.1.1.2.2.2.1,hk.1.1.2.2.2.2⟩⟩⟩⟩),by repeat (first|(with_reducible first|exact HB.out|apply below_alloc|apply pw_below_drewN|apply below_drew1|refine below_set ?_ f8.out|refine below_set ?_ f9.out)|exact HB.out)⟩
     ·rw [if_neg g3] at H
      have n2:(d1 == 0)=false:=beq_eq_false_iff_ne.mpr g3
      have n3:(d1 != 0)=true:=bne_iff_ne.mpr g3
      simp only [Option.some.injEq,Prod.mk.injEq] at H
      obtain ⟨rfl,rfl,rfl,rfl,rfl,rfl,rfl,rfl,rfl,rfl,rfl,rfl,rfl⟩:=H
      have E2:=g7.out
      have E3:=g8.out
      obtain ⟨E4,E5,E6⟩:=cells3 a8.out
      obtain ⟨E7,E8,E9⟩:=froz3 a8.out
      go_wp2_with (first|((with_reducible refine gate_callee (f:=11) rfl ?_);refine goesL_ (some 23) rfl rfl Try.func11 (by kernel_rfl) rfl #[.agg #[.int .i64 b3,.slice e1 b0.length e2,.slice e3 b1.length e4]] rfl tz0 ?_;(with_reducible refine (threshold_Valid.calls g0 b3 _ _ b0 _ _ b1 d1 _ ?side1 ?side2 ?side3 ?side4 k4.out).mono ?_);(case side1=>exact Kd.C_q (Kd.C_below i1.out HB.out));(case side2=>exact i2.out);(case side3=>exact Kd.C_q (Kd.C_below i3.out HB.out));(case side4=>exact i4.out);rintro e e0 ⟨rfl,hb⟩;refine ⟨_,rfl,?_⟩;refine ap3 (blk_below (blkP a8) hb) (blk_below (blkP a7) hb) (below_step (belowP HB) hb) ?_;clear a8 a7 HB;intro a8 a7 HB;have F0:e0.cell? ⟨a6,0,none⟩=some (.int .i64 0):=(blk_cell a7.out 0).trans rfl;have F1:e0.cell? ⟨a6,1,none⟩=some (.int .i64 0):=(blk_cell a7.out 1).trans rfl;have F2:e0.cell? ⟨a6,2,none⟩=some (.int .i64 0):=(blk_cell a7.out 2).trans rfl;have F3:e0.cell? ⟨a6,3,none⟩=some (.int .i64 0):=(blk_cell a7.out 3).trans rfl;have F4:e0.cell? ⟨a6,4,none⟩=some (.int .i64 0):=(blk_cell a7.out 4).trans rfl;have F5:e0.cell? ⟨a6,5,none⟩=some (.slice none 0 0):=(blk_cell a7.out 5).trans rfl;have F6:e0.cell? ⟨a6,6,none⟩=some (.slice none 0 0):=(blk_cell a7.out 6).trans rfl;have F7:e0.cell? ⟨a6,7,none⟩=some (.string (⟨#[]⟩:ByteArray)):=(blk_cell a7.out 7).trans rfl;have F8:e0.cell? ⟨a6,8,none⟩=some (.slice none 0 0):=(blk_cell a7.out 8).trans rfl;have F9:e0.cell? ⟨a6,9,none⟩=some (.slice none 0 0):=(blk_cell a7.out 9).trans rfl;have G0:e0.cell? ⟨a6,10,none⟩=some (.slice none 0 0):=(blk_cell a7.out 10).trans rfl;have G1:e0.cell? ⟨a6,11,none⟩=some (.slice none 0 0):=(blk_cell a7.out 11).trans rfl;have G2:=blk_frozen a7.out 0;have G3:=blk_frozen a7.out 1;have G4:=blk_frozen a7.out 2;have G5:=blk_frozen a7.out 3;have G6:=blk_frozen a7.out 4;have G7:=blk_frozen a7.out 5;have G8:=blk_frozen a7.out 6;have G9:=blk_frozen a7.out 7;have H0:=blk_frozen a7.out 8;have H1:=blk_frozen a7.out 9;have H2:=blk_frozen a7.out 10;have H3:=blk_frozen a7.out 11))
      refine bodyPost_ret (results_ct rfl _ _ a6 33 #[.int .i64 0,.int .i64 0,.int .i64 0,.int .i64 0,.int .i64 0,.slice none 0 0,.slice none 0 0,.string (⟨#[]⟩:ByteArray),.slice none 0 0,.slice none 0 0,.slice none 0 0,.slice none 0 0] (0,0) _ rfl (by refine blkQ ?_;refine blk_put (cs:=#[.int .i64 0,.int .i64 0,.int .i64 0,.int .i64 0,.int .i64 0,.slice none 0 0,.slice none 0 0,.string (⟨#[]⟩:ByteArray),.slice none 0 0,.slice none 0 0,.slice none 0 0,.slice none 0 0]) ?_ 11 _ rfl;refine blkQ ?_;refine blk_put (cs:=#[.int .i64 0,.int .i64 0,.int .i64 0,.int .i64 0,.int .i64 0,.slice none 0 0,.slice none 0 0,.string (⟨#[]⟩:ByteArray),.slice none 0 0,.slice none 0 0,.slice none 0 0,.slice none 0 0]) ?_ 10 _ rfl;refine blkQ ?_;refine blk_put (cs:=#[.int .i64 0,.int .i64 0,.int .i64 0,.int .i64 0,.int .i64 0,.slice none 0 0,.slice none 0 0,.string (⟨#[]⟩:ByteArray),.slice none 0 0,.slice none 0 0,.slice none 0 0,.slice none 0 0]) ?_ 9 _ rfl;refine blkQ ?_;refine blk_put (cs:=#[.int .i64 0,.int .i64 0,.int .i64 0,.int .i64 0,.int .i64 0,.slice none 0 0,.slice none 0 0,.string (⟨#[]⟩:ByteArray),.slice none 0 0,.slice none 0 0,.slice none 0 0,.slice none 0 0]) ?_ 8 _ rfl;refine blkQ ?_;refine blk_put (cs:=#[.int .i64 0,.int .i64 0,.int .i64 0,.int .i64 0,.int .i64 0,.slice none 0 0,.slice none 0 0,.string (⟨#[]⟩:ByteArray),.slice none 0 0,.slice none 0 0,.slice none 0 0,.slice none 0 0]) ?_ 7 _ rfl;refine blkQ ?_;refine blk_put (cs:=#[.int .i64 0,.int .i64 0,.int .i64 0,.int .i64 0,.int .i64 0,.slice none 0 0,.slice none 0 0,.string (⟨#[]⟩:ByteArray),.slice none 0 0,.slice none 0 0,.slice none 0 0,.slice none 0 0]) ?_ 6 _ rfl;refine blkQ ?_;refine blk_put (cs:=#[.int .i64 0,.int .i64 0,.int .i64 0,.int .i64 0,.int .i64 0,.slice none 0 0,.slice none 0 0,.string (⟨#[]⟩:ByteArray),.slice none 0 0,.slice none 0 0,.slice none 0 0,.slice none 0 0]) ?_ 5 _ rfl;refine blkQ ?_;refine blk_put (cs:=#[.int .i64 0,.int .i64 0,.int .i64 0,.int .i64 0,.int .i64 0,.slice none 0 0,.slice none 0 0,.string (⟨#[]⟩:ByteArray),.slice none 0 0,.slice none 0 0,.slice none 0 0,.slice none 0 0]) ?_ 4 _ rfl;refine blkQ ?_;refine blk_put (cs:=#[.int .i64 0,.int .i64 0,.int .i64 0,.int .i64 0,.int .i64 0,.slice none 0 0,.slice none 0 0,.string (⟨#[]⟩:ByteArray),.slice none 0 0,.slice none 0 0,.slice none 0 0,.slice none 0 0]) ?_ 3 _ rfl;refine blkQ ?_;refine blk_put (cs:=#[.int .i64 0,.int .i64 0,.int .i64 0,.int .i64 0,.int .i64 0,.slice none 0 0,.slice none 0 0,.string (⟨#[]⟩:ByteArray),.slice none 0 0,.slice none 0 0,.slice none 0 0,.slice none 0 0]) ?_ 2 _ rfl;refine blkQ ?_;refine blk_put (cs:=#[.int .i64 0,.int .i64 0,.int .i64 0,.int .i64 0,.int .i64 0,.slice none 0 0,.slice none 0 0,.string (⟨#[]⟩:ByteArray),.slice none 0 0,.slice none 0 0,.slice none 0 0,.slice none 0 0]) ?_ 1 _ rfl;refine blkQ ?_;refine blk_put (cs:=#[.int .i64 0,.int .i64 0,.int .i64 0,.int .i64 0,.int .i64 0,.slice none 0 0,.slice none 0 0,.string (⟨#[]⟩:ByteArray),.slice none 0 0,.slice none 0 0,.slice none 0 0,.slice none 0 0]) ?_ 0 _ rfl;refine blkQ ?_;exact a7.out) Try.underlying33 rfl (by kernel_rfl)) rfl ?_
      exact ⟨_,_,_,_,_,_,rE,by first|exact Kd.R_nil _ _ _ _ _|exact Kd.N_nil _ _ _ _ _|exact Kd.V_nil _ _ _ _ _|exact Kd.Q_nil _ _ _ _ _|exact Kd.S_nil _ _ _ _ _,by first|exact Kd.R_nil _ _ _ _ _|exact Kd.N_nil _ _ _ _ _|exact Kd.V_nil _ _ _ _ _|exact Kd.Q_nil _ _ _ _ _|exact Kd.S_nil _ _ _ _ _,by first|exact Kd.R_nil _ _ _ _ _|exact Kd.N_nil _ _ _ _ _|exact Kd.V_nil _ _ _ _ _|exact Kd.Q_nil _ _ _ _ _|exact Kd.S_nil _ _ _ _ _,by first|exact Kd.R_nil _ _ _ _ _|exact Kd.N_nil _ _ _ _ _|exact Kd.V_nil _ _ _ _ _|exact Kd.Q_nil _ _ _ _ _|exact Kd.S_nil _ _ _ _ _,by first|exact Kd.R_nil _ _ _ _ _|exact Kd.N_nil _ _ _ _ _|exact Kd.V_nil _ _ _ _ _|exact Kd.Q_nil _ _ _ _ _|exact Kd.S_nil _ _ _ _ _,by first|exact Kd.R_nil _ _ _ _ _|exact Kd.N_nil _ _ _ _ _|exact Kd.V_nil _ _ _ _ _|exact Kd.Q_nil _ _ _ _ _|exact Kd.S_nil _ _ _ _ _,by repeat (first|(with_reducible first|exact HB.out|apply below_alloc|apply pw_below_drewN|apply below_drew1|refine below_set ?_ f8.out|refine below_set ?_ f9.out)|exact HB.out)⟩
 ·replace c6:=Bool.eq_false_iff.mpr c6
  subst c6
  rw [if_neg (show ¬ (false=true) by decide)] at H
  simp only [Option.some.injEq,Prod.mk.injEq] at H
  obtain ⟨rfl,rfl,rfl,rfl,rfl,rfl,rfl,rfl,rfl,rfl,rfl,rfl,rfl⟩:=H
  go_enter Try.func7,Try.ntmps7
  go_wp2_with (first|((with_reducible refine gate_dst (N:=6) rfl ?_);refine box_event ?hg (N:=6) ?hd (cs:=#[.int .i64 b3,.slice e1 b0.length e2,.slice e3 b1.length e4]) (t:=30) ?hr ?_;(case hd=>rfl);(case hg=>rfl);(case hr=>first|(go_simp;done)|(go_simp;rfl));intro b4 hg H4 hbox hb;refine ap4 (below_step (belowP HB) hb) (hbox) ((by rw [hg];exact (below_size (belowP HB)):w.heap.size≤b4)) ((by rw [hg];exact (below_size (belowP HB)):w.heap.size≤b4)) ?_;clear HB;intro HB a8 GW516 f8;clear hb hbox hg)|((with_reducible refine gate_dst (N:=8) rfl ?_);refine box_event ?hg (N:=8) ?hd (cs:=#[.int .i64 0,.int .i64 0,.int .i64 0,.int .i64 0,.int .i64 0,.slice none 0 0,.slice none 0 0,.string (⟨#[]⟩:ByteArray),.slice none 0 0,.slice none 0 0,.slice none 0 0,.slice none 0 0]) (t:=33) ?hr ?_;(case hd=>rfl);(case hg=>rfl);(case hr=>first|(go_simp;done)|(go_simp;rfl));intro a6 hg b8 hbox hb;refine ap7 (blk_below (blkP a8) hb) (below_step (belowP HB) hb) (hbox) ((by rw [hg];exact (below_size (belowP HB)):w.heap.size≤a6)) ((by rw [hg];exact (below_size (belowP HB)):w.heap.size≤a6)) ((by rw [hg];exact Nat.ne_of_lt (blk_lt (blkP a8)):b4≠a6)) ((by rw [hg];exact Nat.ne_of_gt (blk_lt (blkP a8)):a6≠b4)) ?_;clear a8 HB;intro a8 HB a7 GW517 f9 g7 g8;clear hb hbox hg)|((with_reducible refine gate_callee (f:=10) rfl ?_);refine goesL_ (some 12) rfl rfl Try.func10 (by kernel_rfl) rfl #[.int .i64 a0] rfl tz0 ?_;(with_reducible refine (nomination_node.calls a0 false _ A5.out).mono ?_);rintro e w' ⟨rfl,⟨nd,rfl⟩⟩;refine ⟨_,rfl,?_⟩;(try (rw [drewN_self b8];generalize hq_:World.drewN b8 _=b8;have m7:Aside0 (b8.heap[b4]? = some (.cells #[.int .i64 b3,.slice e1 b0.length e2,.slice e3 b1.length e4] 30 (0,0))):=⟨by rw [← hq_];exact (blkP a8)⟩;have m8:Aside0 (b8.heap[a6]? = some (.cells #[.int .i64 0,.int .i64 0,.int .i64 0,.int .i64 0,.int .i64 0,.slice none 0 0,.slice none 0 0,.string (⟨#[]⟩:ByteArray),.slice none 0 0,.slice none 0 0,.slice none 0 0,.slice none 0 0] 33 (0,0))):=⟨by rw [← hq_];exact (blkP a7)⟩;have m9:Aside0 (Below w.heap.size w b8):=⟨by rw [← hq_];exact (belowP HB)⟩;clear a8 a7 HB hq_;have a8:=m7;have a7:=m8;have HB:=m9;clear m7 m8 m9));have H5:=g8.out;have H6:=g7.out;have H7:b8.cell? ⟨a6,0,none⟩=some (.int .i64 0):=(blk_cell a7.out 0).trans rfl;have H8:b8.cell? ⟨a6,1,none⟩=some (.int .i64 0):=(blk_cell a7.out 1).trans rfl;have H9:b8.cell? ⟨a6,2,none⟩=some (.int .i64 0):=(blk_cell a7.out 2).trans rfl;have I0:b8.cell? ⟨a6,3,none⟩=some (.int .i64 0):=(blk_cell a7.out 3).trans rfl;have I1:b8.cell? ⟨a6,4,none⟩=some (.int .i64 0):=(blk_cell a7.out 4).trans rfl;have I2:b8.cell? ⟨a6,5,none⟩=some (.slice none 0 0):=(blk_cell a7.out 5).trans rfl;have I3:b8.cell? ⟨a6,6,none⟩=some (.slice none 0 0):=(blk_cell a7.out 6).trans rfl;have I4:b8.cell? ⟨a6,7,none⟩=some (.string (⟨#[]⟩:ByteArray)):=(blk_cell a7.out 7).trans rfl;have I5:b8.cell? ⟨a6,8,none⟩=some (.slice none 0 0):=(blk_cell a7.out 8).trans rfl;have I6:b8.cell? ⟨a6,9,none⟩=some (.slice none 0 0):=(blk_cell a7.out 9).trans rfl;have I7:b8.cell? ⟨a6,10,none⟩=some (.slice none 0 0):=(blk_cell a7.out 10).trans rfl;have I8:b8.cell? ⟨a6,11,none⟩=some (.slice none 0 0):=(blk_cell a7.out 11).trans rfl;have I9:=blk_frozen a7.out 0;have J0:=blk_frozen a7.out 1;have J1:=blk_frozen a7.out 2;have J2:=blk_frozen a7.out 3;have J3:=blk_frozen a7.out 4;have J4:=blk_frozen a7.out 5;have J5:=blk_frozen a7.out 6;have J6:=blk_frozen a7.out 7;have J7:=blk_frozen a7.out 8;have J8:=blk_frozen a7.out 9;have J9:=blk_frozen a7.out 10;have K0:=blk_frozen a7.out 11))
  refine bodyPost_ret (results_ct rfl _ _ a6 33 #[.int .i64 0,.int .i64 0,.int .i64 0,.int .i64 0,.int .i64 0,.slice none 0 0,.slice none 0 0,.string (⟨#[]⟩:ByteArray),.slice none 0 0,.slice none 0 0,.slice none 0 0,.slice none 0 0] (0,0) _ rfl (by refine blkQ ?_;refine blk_put (cs:=#[.int .i64 0,.int .i64 0,.int .i64 0,.int .i64 0,.int .i64 0,.slice none 0 0,.slice none 0 0,.string (⟨#[]⟩:ByteArray),.slice none 0 0,.slice none 0 0,.slice none 0 0,.slice none 0 0]) ?_ 11 _ rfl;refine blkQ ?_;refine blk_put (cs:=#[.int .i64 0,.int .i64 0,.int .i64 0,.int .i64 0,.int .i64 0,.slice none 0 0,.slice none 0 0,.string (⟨#[]⟩:ByteArray),.slice none 0 0,.slice none 0 0,.slice none 0 0,.slice none 0 0]) ?_ 10 _ rfl;refine blkQ ?_;refine blk_put (cs:=#[.int .i64 0,.int .i64 0,.int .i64 0,.int .i64 0,.int .i64 0,.slice none 0 0,.slice none 0 0,.string (⟨#[]⟩:ByteArray),.slice none 0 0,.slice none 0 0,.slice none 0 0,.slice none 0 0]) ?_ 9 _ rfl;refine blkQ ?_;refine blk_put (cs:=#[.int .i64 0,.int .i64 0,.int .i64 0,.int .i64 0,.int .i64 0,.slice none 0 0,.slice none 0 0,.string (⟨#[]⟩:ByteArray),.slice none 0 0,.slice none 0 0,.slice none 0 0,.slice none 0 0]) ?_ 8 _ rfl;refine blkQ ?_;refine blk_put (cs:=#[.int .i64 0,.int .i64 0,.int .i64 0,.int .i64 0,.int .i64 0,.slice none 0 0,.slice none 0 0,.string (⟨#[]⟩:ByteArray),.slice none 0 0,.slice none 0 0,.slice none 0 0,.slice none 0 0]) ?_ 7 _ rfl;refine blkQ ?_;refine blk_put (cs:=#[.int .i64 0,.int .i64 0,.int .i64 0,.int .i64 0,.int .i64 0,.slice none 0 0,.slice none 0 0,.string (⟨#[]⟩:ByteArray),.slice none 0 0,.slice none 0 0,.slice none 0 0,.slice none 0 0]) ?_ 6 _ rfl;refine blkQ ?_;refine blk_put (cs:=#[.int .i64 0,.int .i64 0,.int .i64 0,.int .i64 0,.int .i64 0,.slice none 0 0,.slice none 0 0,.string (⟨#[]⟩:ByteArray),.slice none 0 0,.slice none 0 0,.slice none 0 0,.slice none 0 0]) ?_ 5 _ rfl;refine blkQ ?_;refine blk_put (cs:=#[.int .i64 0,.int .i64 0,.int .i64 0,.int .i64 0,.int .i64 0,.slice none 0 0,.slice none 0 0,.string (⟨#[]⟩:ByteArray),.slice none 0 0,.slice none 0 0,.slice none 0 0,.slice none 0 0]) ?_ 4 _ rfl;refine blkQ ?_;refine blk_put (cs:=#[.int .i64 0,.int .i64 0,.int .i64 0,.int .i64 0,.int .i64 0,.slice none 0 0,.slice none 0 0,.string (⟨#[]⟩:ByteArray),.slice none 0 0,.slice none 0 0,.slice none 0 0,.slice none 0 0]) ?_ 3 _ rfl;refine blkQ ?_;refine blk_put (cs:=#[.int .i64 0,.int .i64 0,.int .i64 0,.int .i64 0,.int .i64 0,.slice none 0 0,.slice none 0 0,.string (⟨#[]⟩:ByteArray),.slice none 0 0,.slice none 0 0,.slice none 0 0,.slice none 0 0]) ?_ 2 _ rfl;refine blkQ ?_;refine blk_put (cs:=#[.int .i64 0,.int .i64 0,.int .i64 0,.int .i64 0,.int .i64 0,.slice none 0 0,.slice none 0 0,.string (⟨#[]⟩:ByteArray),.slice none 0 0,.slice none 0 0,.slice none 0 0,.slice none 0 0]) ?_ 1 _ rfl;refine blkQ ?_;refine blk_put (cs:=#[.int .i64 0,.int .i64 0,.int .i64 0,.int .i64 0,.int .i64 0,.slice none 0 0,.slice none 0 0,.string (⟨#[]⟩:ByteArray),.slice none 0 0,.slice none 0 0,.slice none 0 0,.slice none 0 0]) ?_ 0 _ rfl;refine blkQ ?_;exact a7.out) Try.underlying33 rfl (by kernel_rfl)) rfl ?_
  exact ⟨_,_,_,_,_,_,rE,by first|exact Kd.R_nil _ _ _ _ _|exact Kd.N_nil _ _ _ _ _|exact Kd.V_nil _ _ _ _ _|exact Kd.Q_nil _ _ _ _ _|exact Kd.S_nil _ _ _ _ _,by first|exact Kd.R_nil _ _ _ _ _|exact Kd.N_nil _ _ _ _ _|exact Kd.V_nil _ _ _ _ _|exact Kd.Q_nil _ _ _ _ _|exact Kd.S_nil _ _ _ _ _,by first|exact Kd.R_nil _ _ _ _ _|exact Kd.N_nil _ _ _ _ _|exact Kd.V_nil _ _ _ _ _|exact Kd.Q_nil _ _ _ _ _|exact Kd.S_nil _ _ _ _ _,by first|exact Kd.R_nil _ _ _ _ _|exact Kd.N_nil _ _ _ _ _|exact Kd.V_nil _ _ _ _ _|exact Kd.Q_nil _ _ _ _ _|exact Kd.S_nil _ _ _ _ _,by first|exact Kd.R_nil _ _ _ _ _|exact Kd.N_nil _ _ _ _ _|exact Kd.V_nil _ _ _ _ _|exact Kd.Q_nil _ _ _ _ _|exact Kd.S_nil _ _ _ _ _,by first|exact Kd.R_nil _ _ _ _ _|exact Kd.N_nil _ _ _ _ _|exact Kd.V_nil _ _ _ _ _|exact Kd.Q_nil _ _ _ _ _|exact Kd.S_nil _ _ _ _ _,by repeat (first|(with_reducible first|exact HB.out|apply below_alloc|apply pw_below_drewN|apply below_drew1|refine below_set ?_ f8.out|refine below_set ?_ f9.out)|exact HB.out)⟩
def trustquorumlaw22_awake.f (k:Nat)  : Option (Bool):=(nomination_Composite.f k (([(⟨#[98]⟩:ByteArray),(⟨#[97,97]⟩:ByteArray),(⟨#[97,98]⟩:ByteArray)]:List ByteArray))).bind fun e0=>((nomination_Start.f k 3 0 1 (([3]:List Int)) ([]:List (S30)) (⟨#[109,101]⟩:ByteArray)).bind fun a6=>(if e0.2=true then (if e0.1.toList=([97,98]:List UInt8) then (if a6.2.2.2.2.2.2.2.2.2.2.2.2=0 then (if (a6.2.2.2.2.2.2.2.2.2.2.1.length:Int)=1 then (if 0 < (a6.2.2.2.2.2.2.2.2.2.2.1.length:Int) then (some ((rdOf ByteArray.empty a6.2.2.2.2.2.2.2.2.2.2.1 0).toList == ([109,101]:List UInt8))) else (none)) else (some false)) else (some false)) else (some false)) else (some false)))
theorem trustquorumlaw22_awake.mono:∀ k,LeO (trustquorumlaw22_awake.f k ) (trustquorumlaw22_awake.f (k + 1) ):=by
 intro  k
 unfold trustquorumlaw22_awake.f
 repeat' first
   | (with_reducible apply nomination_Composite.mono)
   | (with_reducible apply nomination_Start.mono)
   | (with_reducible exact LeO.refl _)
   | (with_reducible exact LeO.none _)
   | (with_reducible refine LeO.ite ?_ ?_)
   | (with_reducible refine LeO.bind ?_ (fun _=>?_))
set_option maxHeartbeats 8000000 in
set_option maxRecDepth 100000 in
theorem trustquorumlaw22_awake.calls (k:Nat)  (r:Bool) (w:World) (h:trustquorumlaw22_awake.f k  = some r) :
  Calls Try.prog 4 #[] w fun e w'=>e = .returned (.bool r)∧Below w.heap.size w w':=by
 have hu30:=Try.underlying30
 have hu33:=Try.underlying33
 have HB:=Aside0.mk (Below.refl w.heap.size w)
 have H:((nomination_Composite.f k (([(⟨#[98]⟩:ByteArray),(⟨#[97,97]⟩:ByteArray),(⟨#[97,98]⟩:ByteArray)]:List ByteArray))).bind fun e0=>((nomination_Start.f k 3 0 1 (([3]:List Int)) ([]:List (S30)) (⟨#[109,101]⟩:ByteArray)).bind fun a6=>(if e0.2=true then (if e0.1.toList=([97,98]:List UInt8) then (if a6.2.2.2.2.2.2.2.2.2.2.2.2=0 then (if (a6.2.2.2.2.2.2.2.2.2.2.1.length:Int)=1 then (if 0 < (a6.2.2.2.2.2.2.2.2.2.2.1.length:Int) then (some ((rdOf ByteArray.empty a6.2.2.2.2.2.2.2.2.2.2.1 0).toList == ([109,101]:List UInt8))) else (none)) else (some false)) else (some false)) else (some false)) else (some false))))=some r:=h
 clear h
 obtain ⟨d2,h1⟩:∃ y_:List ByteArray,y_=(([(⟨#[98]⟩:ByteArray),(⟨#[97,97]⟩:ByteArray),(⟨#[97,98]⟩:ByteArray)]:List ByteArray)):=⟨_,rfl⟩
 replace H:((nomination_Composite.f k d2).bind fun e0=>((nomination_Start.f k 3 0 1 (([3]:List Int)) ([]:List (S30)) (⟨#[109,101]⟩:ByteArray)).bind fun a6=>(if e0.2=true then (if e0.1.toList=([97,98]:List UInt8) then (if a6.2.2.2.2.2.2.2.2.2.2.2.2=0 then (if (a6.2.2.2.2.2.2.2.2.2.2.1.length:Int)=1 then (if 0 < (a6.2.2.2.2.2.2.2.2.2.2.1.length:Int) then (some ((rdOf ByteArray.empty a6.2.2.2.2.2.2.2.2.2.2.1 0).toList == ([109,101]:List UInt8))) else (none)) else (some false)) else (some false)) else (some false)) else (some false))))=some r:=rH h1 H
 have d5:=Aside0.mk h1
 clear h1
 replace H:=Option.bind_eq_some_iff.mp H
 obtain ⟨⟨b7,g2⟩,h5,H⟩:=H
 replace H:((nomination_Start.f k 3 0 1 (([3]:List Int)) ([]:List (S30)) (⟨#[109,101]⟩:ByteArray)).bind fun a6=>(if g2=true then (if b7.toList=([97,98]:List UInt8) then (if a6.2.2.2.2.2.2.2.2.2.2.2.2=0 then (if (a6.2.2.2.2.2.2.2.2.2.2.1.length:Int)=1 then (if 0 < (a6.2.2.2.2.2.2.2.2.2.2.1.length:Int) then (some ((rdOf ByteArray.empty a6.2.2.2.2.2.2.2.2.2.2.1 0).toList == ([109,101]:List UInt8))) else (none)) else (some false)) else (some false)) else (some false)) else (some false)))=some r:=H
 have A1:=Aside0.mk h5
 clear h5
 obtain ⟨d3,h2⟩:∃ y_:List Int,y_=(([3]:List Int)):=⟨_,rfl⟩
 replace H:((nomination_Start.f k 3 0 1 d3 ([]:List (S30)) (⟨#[109,101]⟩:ByteArray)).bind fun a6=>(if g2=true then (if b7.toList=([97,98]:List UInt8) then (if a6.2.2.2.2.2.2.2.2.2.2.2.2=0 then (if (a6.2.2.2.2.2.2.2.2.2.2.1.length:Int)=1 then (if 0 < (a6.2.2.2.2.2.2.2.2.2.2.1.length:Int) then (some ((rdOf ByteArray.empty a6.2.2.2.2.2.2.2.2.2.2.1 0).toList == ([109,101]:List UInt8))) else (none)) else (some false)) else (some false)) else (some false)) else (some false)))=some r:=rH h2 H
 have d6:=Aside0.mk h2
 clear h2
 replace H:=Option.bind_eq_some_iff.mp H
 obtain ⟨⟨e1,e2,e3,e4,e5,e6,e7,e8,e9,f0,b2,f1,d4⟩,h6,H⟩:=H
 replace H:(if g2=true then (if b7.toList=([97,98]:List UInt8) then (if d4=0 then (if (b2.length:Int)=1 then (if 0 < (b2.length:Int) then (some ((rdOf ByteArray.empty b2 0).toList == ([109,101]:List UInt8))) else (none)) else (some false)) else (some false)) else (some false)) else (some false))=some r:=H
 have A2:=Aside0.mk h6
 clear h6
 by_cases c3:g2=true
 ·subst c3
  rw [if_pos rfl] at H
  by_cases c4:b7.toList=([97,98]:List UInt8)
  ·rw [if_pos c4] at H
   have h7:(b7.toList == ([97,98]:List UInt8))=true:=beq_iff_eq.mpr c4
   have h8:(b7.toList != ([97,98]:List UInt8))=false:=bne_eq_false_iff_eq.mpr c4
   clear c4
   by_cases c5:d4=0
   ·rw [if_pos c5] at H
    have h9:(d4 == 0)=true:=beq_iff_eq.mpr c5
    have i0:(d4 != 0)=false:=bne_eq_false_iff_eq.mpr c5
    clear c5
    by_cases c6:(b2.length:Int)=1
    ·rw [if_pos c6] at H
     have i1:((b2.length:Int) == 1)=true:=beq_iff_eq.mpr c6
     have i2:((b2.length:Int) != 1)=false:=bne_eq_false_iff_eq.mpr c6
     clear c6
     by_cases c7:0 < (b2.length:Int)
     ·rw [if_pos c7] at H
      have q0:decide (0 < (b2.length:Int))=true:=decide_eq_true c7
      have q1:decide (0 < b2.length)=true:=decide_eq_true (by omega)
      clear c7
      obtain rfl:=Option.some.inj H
      go_enter Try.func4,Try.ntmps4
      go_wp2_with (first|((with_reducible refine gate_dst (N:=6) rfl ?_);(try (refine gate_guard (by rfl) ?_;dsimp only));refine Kd.R_lit Kd.string _ 9 ?hg (N:=6) ?hd (xs:=([(⟨#[98]⟩:ByteArray),(⟨#[97,97]⟩:ByteArray),(⟨#[97,98]⟩:ByteArray)]:List ByteArray)) (inner:=[.string (⟨#[98]⟩:ByteArray),.string (⟨#[97,97]⟩:ByteArray),.string (⟨#[97,98]⟩:ByteArray)]) (ok:=fun _=>True) (okp:=fun _=>True) ?hr ?hp (fun _ hk=>hk) trivial (Below.refl _ _) (Nat.le_refl _) (by simp) ?_;(case hd=>rfl);(case hg=>rfl);(case hr=>first|(go_simp;done)|(go_simp;rfl));(case hp=>exact (Reps.one (show Kd.M Kd.string _ _ _ (⟨#[98]⟩:ByteArray) [.string (⟨#[98]⟩:ByteArray)] from rfl) (Reps.one (show Kd.M Kd.string _ _ _ (⟨#[97,97]⟩:ByteArray) [.string (⟨#[97,97]⟩:ByteArray)] from rfl) (Reps.one (show Kd.M Kd.string _ _ _ (⟨#[97,98]⟩:ByteArray) [.string (⟨#[97,98]⟩:ByteArray)] from rfl) (Reps.none _ _)))));intro g3 w8 f2 hb hg_ hnew_;clear hg_ hnew_;(first|rw [← d5.out] at f2|(simp only [Int.reduceToNat] at f2;rw [← d5.out] at f2));refine ap2 (Kd.R_lower f2 (below_size (belowP HB))) (below_step (belowP HB) hb) ?_;clear HB;intro a1 HB;clear hb f2;obtain ⟨i3,i4,i5⟩:=Kd.R_slice a1.out;subst i5)|((with_reducible refine gate_callee (f:=5) rfl ?_);refine goesL_ (some 7) rfl rfl Try.func5 (by kernel_rfl) rfl #[.slice i3 d2.length i4] rfl tz0 ?_;(with_reducible refine (nomination_Composite.calls k _ _ d2 b7 true _ ?side1 ?side2 A1.out).mono ?_);(case side1=>exact Kd.C_q ((Kd.R_reads' a1.out).2.2));(case side2=>exact (Kd.R_reads' a1.out).2.1);rintro e q2 ⟨rfl,hb⟩;refine ⟨_,rfl,?_⟩;refine ap2 (Kd.R_below (Kd.R_q a1.out) hb) (below_step (belowP HB) hb) ?_;clear a1 HB;intro a1 HB)|((with_reducible refine gate_dst (N:=11) rfl ?_);(try (refine gate_guard (by rfl) ?_;dsimp only));refine Kd.R_lit (Kd.int .i64) _ 3 ?hg (N:=11) ?hd (xs:=([3]:List Int)) (inner:=[.int .i64 3]) (ok:=fun _=>True) (okp:=fun _=>True) ?hr ?hp (fun _ hk=>hk) trivial (Below.refl _ _) (Nat.le_refl _) (by simp) ?_;(case hd=>rfl);(case hg=>rfl);(case hr=>first|(go_simp;done)|(go_simp;rfl));(case hp=>exact (Reps.one (show Kd.M (Kd.int .i64) _ _ _ 3 [.int .i64 3] from rfl) (Reps.none _ _)));intro g4 q3 f3 hb hg_ hnew_;clear hg_ hnew_;(first|rw [← d6.out] at f3|(simp only [Int.reduceToNat] at f3;rw [← d6.out] at f3));refine ap3 (Kd.R_below (Kd.R_q a1.out) hb) (Kd.R_lower f3 (below_size (belowP HB))) (below_step (belowP HB) hb) ?_;clear a1 HB;intro a1 a3 HB;clear hb f3;obtain ⟨i6,i7,i8⟩:=Kd.R_slice a3.out;subst i8)|((with_reducible refine gate_callee (f:=7) rfl ?_);refine goesL_ (some 13) rfl rfl Try.func7 (by kernel_rfl) rfl #[.int .i64 3,.int .i64 0,.agg #[.int .i64 1,.slice i6 d3.length i7,.slice none 0 0],.string (⟨#[109,101]⟩:ByteArray)] rfl tz0 ?_;(refine (nomination_Start.calls k 3 0 1 _ _ d3 _ _ ([]:List (S30)) (⟨#[109,101]⟩:ByteArray) e1 e2 e3 e4 e5 e6 e7 e8 e9 f0 b2 f1 d4 _ ?side1 ?side2 ?side3 ?side4 A2.out).mono ?_);(case side1=>exact Kd.C_q ((Kd.R_reads' a3.out).2.2));(case side2=>exact (Kd.R_reads' a3.out).2.1);(case side3=>exact Kd.C_nil _ _);(case side4=>exact Nat.le_refl _);rintro e q4 ⟨g5,g6,g7,g8,g9,h0,rfl,b3,d7,b4,b5,b6,d8,hb⟩;refine ⟨_,rfl,?_⟩;refine ap9 (Kd.R_mono (Kd.R_told (Kd.R_told (Kd.R_told (Kd.R_old (Kd.R_q a1.out) hb) (Kd.R_base b4)) (Kd.R_base b5)) (Kd.R_base b6)) (fun _ h_=>h_.1)) (Kd.R_elder' (Kd.R_q a3.out) (Kd.R_base b3) hb) (Kd.R_lower (Kd.R_new' b3 (Kd.R_lt (Kd.R_q a3.out))) (below_size (belowP HB))) (Kd.R_lower (Kd.R_new' d7 (Kd.R_lt (Kd.R_q a3.out))) (below_size (belowP HB))) (Kd.R_lower (Kd.R_new' b4 (Kd.R_lt (Kd.R_q a1.out))) (below_size (belowP HB))) (Kd.R_lower (Kd.R_new' b5 (Kd.R_lt (Kd.R_q a1.out))) (below_size (belowP HB))) (Kd.R_lower (Kd.R_new' b6 (Kd.R_lt (Kd.R_q a1.out))) (below_size (belowP HB))) (Kd.R_lower (Kd.R_new' (Kd.R_new' d8 (Kd.R_lt (Kd.R_q a1.out))) (Kd.R_lt (Kd.R_q a3.out))) (below_size (belowP HB))) (below_step (belowP HB) hb) ?_;clear a1 a3 HB;intro a1 a3 a7 a8 a9 b0 a4 b1 HB)|((with_reducible refine gate_dst (N:=3) rfl ?_);(try (refine gate_guard (by rfl) ?_;dsimp only));refine box_event ?hg (N:=3) ?hd (cs:=#[.int .i64 0,.int .i64 0,.int .i64 0,.int .i64 0,.int .i64 0,.slice none 0 0,.slice none 0 0,.string (⟨#[]⟩:ByteArray),.slice none 0 0,.slice none 0 0,.slice none 0 0,.slice none 0 0]) (t:=33) ?hr ?_;(case hd=>rfl);(case hg=>rfl);(case hr=>first|(go_simp;done)|(go_simp;rfl));intro a2 hg b9 hbox hb;refine ap12 (Kd.R_below (Kd.R_q a1.out) hb) (Kd.R_below (Kd.R_q a3.out) hb) (Kd.R_below (Kd.R_q a7.out) hb) (Kd.R_below (Kd.R_q a8.out) hb) (Kd.R_below (Kd.R_q a9.out) hb) (Kd.R_below (Kd.R_q b0.out) hb) (Kd.R_below (Kd.R_q a4.out) hb) (Kd.R_below (Kd.R_q b1.out) hb) (below_step (belowP HB) hb) (hbox) ((by rw [hg];exact (below_size (belowP HB)):w.heap.size≤a2)) ((by rw [hg];exact (below_size (belowP HB)):w.heap.size≤a2)) ?_;clear a1 a3 a7 a8 a9 b0 a4 b1 HB;intro a1 a3 a7 a8 a9 b0 a4 b1 HB a0 GW601 d9;clear hb hbox hg;have q5:b9.cell? ⟨a2,0,none⟩=some (.int .i64 0):=(blk_cell a0.out 0).trans rfl;have q6:b9.cell? ⟨a2,1,none⟩=some (.int .i64 0):=(blk_cell a0.out 1).trans rfl;have q7:b9.cell? ⟨a2,2,none⟩=some (.int .i64 0):=(blk_cell a0.out 2).trans rfl;have q8:b9.cell? ⟨a2,3,none⟩=some (.int .i64 0):=(blk_cell a0.out 3).trans rfl;have q9:b9.cell? ⟨a2,4,none⟩=some (.int .i64 0):=(blk_cell a0.out 4).trans rfl;have r0:b9.cell? ⟨a2,5,none⟩=some (.slice none 0 0):=(blk_cell a0.out 5).trans rfl;have r1:b9.cell? ⟨a2,6,none⟩=some (.slice none 0 0):=(blk_cell a0.out 6).trans rfl;have r2:b9.cell? ⟨a2,7,none⟩=some (.string (⟨#[]⟩:ByteArray)):=(blk_cell a0.out 7).trans rfl;have r3:b9.cell? ⟨a2,8,none⟩=some (.slice none 0 0):=(blk_cell a0.out 8).trans rfl;have r4:b9.cell? ⟨a2,9,none⟩=some (.slice none 0 0):=(blk_cell a0.out 9).trans rfl;have r5:b9.cell? ⟨a2,10,none⟩=some (.slice none 0 0):=(blk_cell a0.out 10).trans rfl;have r6:b9.cell? ⟨a2,11,none⟩=some (.slice none 0 0):=(blk_cell a0.out 11).trans rfl;have r7:=blk_frozen a0.out 0;have r8:=blk_frozen a0.out 1;have r9:=blk_frozen a0.out 2;have s0:=blk_frozen a0.out 3;have s1:=blk_frozen a0.out 4;have s2:=blk_frozen a0.out 5;have s3:=blk_frozen a0.out 6;have s4:=blk_frozen a0.out 7;have s5:=blk_frozen a0.out 8;have s6:=blk_frozen a0.out 9;have s7:=blk_frozen a0.out 10;have s8:=blk_frozen a0.out 11;obtain ⟨i9,j2,j3⟩:=Kd.R_slice a7.out;subst j3;obtain ⟨j4,j5,j6⟩:=Kd.R_slice a8.out;subst j6;obtain ⟨j7,j8,j9⟩:=Kd.R_slice a9.out;subst j9;obtain ⟨k0,k1,k2⟩:=Kd.R_slice b0.out;subst k2;obtain ⟨s9,k3,k4⟩:=Kd.R_slice a4.out;subst k4;obtain ⟨k5,k6,k7⟩:=Kd.R_slice b1.out;subst k7;have h3:0≤(0:Int):=(by omega);have h4:0 < (b2.length:Int):=of_decide_eq_true tz2;obtain ⟨b8,k8,a5⟩:=Kd.at_string (Kd.R_reads' a4.out).2.2 0 h3 h4;cases k8;have qi602:(0 < b2.length)=True:=eq_true (by omega);(try rw [show ((0:Int)).toNat=0 from rfl] at a5);(try rw [Addr.add_zero'] at a5);have hn602_0:b8.block≠a2:=Kd.own_blk (Kd.R_ne a4.out a0.out (by decide));have hn602_1:b8.block≠a2:=Kd.own_blk (Kd.R_ne a4.out a0.out (by decide));have hn602_2:b8.block≠a2:=Kd.own_blk (Kd.R_ne a4.out a0.out (by decide));have hn602_3:b8.block≠a2:=Kd.own_blk (Kd.R_ne a4.out a0.out (by decide));have hn602_4:b8.block≠a2:=Kd.own_blk (Kd.R_ne a4.out a0.out (by decide));have hn602_5:b8.block≠a2:=Kd.own_blk (Kd.R_ne a4.out a0.out (by decide));have hn602_6:b8.block≠a2:=Kd.own_blk (Kd.R_ne a4.out a0.out (by decide));have hn602_7:b8.block≠a2:=Kd.own_blk (Kd.R_ne a4.out a0.out (by decide));have hn602_8:b8.block≠a2:=Kd.own_blk (Kd.R_ne a4.out a0.out (by decide));have hn602_9:b8.block≠a2:=Kd.own_blk (Kd.R_ne a4.out a0.out (by decide));have hn602_10:b8.block≠a2:=Kd.own_blk (Kd.R_ne a4.out a0.out (by decide));have hn602_11:b8.block≠a2:=Kd.own_blk (Kd.R_ne a4.out a0.out (by decide));replace a5:=(cell_far (p:=⟨a2,0,none⟩) (by first|(rw [add_block];exact hn602_0)|(show (Addr.add _ _).block≠_;rw [add_block];exact hn602_0)|exact hn602_0) (.int .i64 e1)).trans a5;replace a5:=(cell_far (p:=⟨a2,1,none⟩) (by first|(rw [add_block];exact hn602_1)|(show (Addr.add _ _).block≠_;rw [add_block];exact hn602_1)|exact hn602_1) (.int .i64 e2)).trans a5;replace a5:=(cell_far (p:=⟨a2,2,none⟩) (by first|(rw [add_block];exact hn602_2)|(show (Addr.add _ _).block≠_;rw [add_block];exact hn602_2)|exact hn602_2) (.int .i64 e3)).trans a5;replace a5:=(cell_far (p:=⟨a2,3,none⟩) (by first|(rw [add_block];exact hn602_3)|(show (Addr.add _ _).block≠_;rw [add_block];exact hn602_3)|exact hn602_3) (.int .i64 e4)).trans a5;replace a5:=(cell_far (p:=⟨a2,4,none⟩) (by first|(rw [add_block];exact hn602_4)|(show (Addr.add _ _).block≠_;rw [add_block];exact hn602_4)|exact hn602_4) (.int .i64 e5)).trans a5;replace a5:=(cell_far (p:=⟨a2,5,none⟩) (by first|(rw [add_block];exact hn602_5)|(show (Addr.add _ _).block≠_;rw [add_block];exact hn602_5)|exact hn602_5) (.slice i9 e6.length j2)).trans a5;replace a5:=(cell_far (p:=⟨a2,6,none⟩) (by first|(rw [add_block];exact hn602_6)|(show (Addr.add _ _).block≠_;rw [add_block];exact hn602_6)|exact hn602_6) (.slice j4 e7.length j5)).trans a5;replace a5:=(cell_far (p:=⟨a2,7,none⟩) (by first|(rw [add_block];exact hn602_7)|(show (Addr.add _ _).block≠_;rw [add_block];exact hn602_7)|exact hn602_7) (.string e8)).trans a5;replace a5:=(cell_far (p:=⟨a2,8,none⟩) (by first|(rw [add_block];exact hn602_8)|(show (Addr.add _ _).block≠_;rw [add_block];exact hn602_8)|exact hn602_8) (.slice j7 e9.length j8)).trans a5;replace a5:=(cell_far (p:=⟨a2,9,none⟩) (by first|(rw [add_block];exact hn602_9)|(show (Addr.add _ _).block≠_;rw [add_block];exact hn602_9)|exact hn602_9) (.slice k0 f0.length k1)).trans a5;replace a5:=(cell_far (p:=⟨a2,10,none⟩) (by first|(rw [add_block];exact hn602_10)|(show (Addr.add _ _).block≠_;rw [add_block];exact hn602_10)|exact hn602_10) (.slice (some b8) b2.length k3)).trans a5;replace a5:=(cell_far (p:=⟨a2,11,none⟩) (by first|(rw [add_block];exact hn602_11)|(show (Addr.add _ _).block≠_;rw [add_block];exact hn602_11)|exact hn602_11) (.slice k5 f1.length k6)).trans a5;clear hn602_0 hn602_1 hn602_2 hn602_3 hn602_4 hn602_5 hn602_6 hn602_7 hn602_8 hn602_9 hn602_10 hn602_11;replace h3:=eq_true h3;replace h4:=eq_true h4))
      go_ret
      exact ⟨rE,by repeat (first|(with_reducible first|exact HB.out|apply below_alloc|apply pw_below_drewN|apply below_drew1|refine below_set ?_ d9.out)|exact HB.out)⟩
     ·rw [if_neg c7] at H
      exact absurd H (by simp)
    ·rw [if_neg c6] at H
     have i1:((b2.length:Int) == 1)=false:=beq_eq_false_iff_ne.mpr c6
     have i2:((b2.length:Int) != 1)=true:=bne_iff_ne.mpr c6
     obtain rfl:=Option.some.inj H
     go_enter Try.func4,Try.ntmps4
     go_wp2_with (first|((with_reducible refine gate_dst (N:=6) rfl ?_);(try (refine gate_guard (by rfl) ?_;dsimp only));refine Kd.R_lit Kd.string _ 9 ?hg (N:=6) ?hd (xs:=([(⟨#[98]⟩:ByteArray),(⟨#[97,97]⟩:ByteArray),(⟨#[97,98]⟩:ByteArray)]:List ByteArray)) (inner:=[.string (⟨#[98]⟩:ByteArray),.string (⟨#[97,97]⟩:ByteArray),.string (⟨#[97,98]⟩:ByteArray)]) (ok:=fun _=>True) (okp:=fun _=>True) ?hr ?hp (fun _ hk=>hk) trivial (Below.refl _ _) (Nat.le_refl _) (by simp) ?_;(case hd=>rfl);(case hg=>rfl);(case hr=>first|(go_simp;done)|(go_simp;rfl));(case hp=>exact (Reps.one (show Kd.M Kd.string _ _ _ (⟨#[98]⟩:ByteArray) [.string (⟨#[98]⟩:ByteArray)] from rfl) (Reps.one (show Kd.M Kd.string _ _ _ (⟨#[97,97]⟩:ByteArray) [.string (⟨#[97,97]⟩:ByteArray)] from rfl) (Reps.one (show Kd.M Kd.string _ _ _ (⟨#[97,98]⟩:ByteArray) [.string (⟨#[97,98]⟩:ByteArray)] from rfl) (Reps.none _ _)))));intro g3 t0 f4 hb hg_ hnew_;clear hg_ hnew_;(first|rw [← d5.out] at f4|(simp only [Int.reduceToNat] at f4;rw [← d5.out] at f4));refine ap2 (Kd.R_lower f4 (below_size (belowP HB))) (below_step (belowP HB) hb) ?_;clear HB;intro a1 HB;clear hb f4;obtain ⟨k9,l3,l4⟩:=Kd.R_slice a1.out;subst l4)|((with_reducible refine gate_callee (f:=5) rfl ?_);refine goesL_ (some 7) rfl rfl Try.func5 (by kernel_rfl) rfl #[.slice k9 d2.length l3] rfl tz0 ?_;(with_reducible refine (nomination_Composite.calls k _ _ d2 b7 true _ ?side1 ?side2 A1.out).mono ?_);(case side1=>exact Kd.C_q ((Kd.R_reads' a1.out).2.2));(case side2=>exact (Kd.R_reads' a1.out).2.1);rintro e t1 ⟨rfl,hb⟩;refine ⟨_,rfl,?_⟩;refine ap2 (Kd.R_below (Kd.R_q a1.out) hb) (below_step (belowP HB) hb) ?_;clear a1 HB;intro a1 HB)|((with_reducible refine gate_dst (N:=11) rfl ?_);(try (refine gate_guard (by rfl) ?_;dsimp only));refine Kd.R_lit (Kd.int .i64) _ 3 ?hg (N:=11) ?hd (xs:=([3]:List Int)) (inner:=[.int .i64 3]) (ok:=fun _=>True) (okp:=fun _=>True) ?hr ?hp (fun _ hk=>hk) trivial (Below.refl _ _) (Nat.le_refl _) (by simp) ?_;(case hd=>rfl);(case hg=>rfl);(case hr=>first|(go_simp;done)|(go_simp;rfl));(case hp=>exact (Reps.one (show Kd.M (Kd.int .i64) _ _ _ 3 [.int .i64 3] from rfl) (Reps.none _ _)));intro g4 t2 f5 hb hg_ hnew_;clear hg_ hnew_;(first|rw [← d6.out] at f5|(simp only [Int.reduceToNat] at f5;rw [← d6.out] at f5));refine ap3 (Kd.R_below (Kd.R_q a1.out) hb) (Kd.R_lower f5 (below_size (belowP HB))) (below_step (belowP HB) hb) ?_;clear a1 HB;intro a1 a3 HB;clear hb f5;obtain ⟨l5,l6,l7⟩:=Kd.R_slice a3.out;subst l7)|((with_reducible refine gate_callee (f:=7) rfl ?_);refine goesL_ (some 13) rfl rfl Try.func7 (by kernel_rfl) rfl #[.int .i64 3,.int .i64 0,.agg #[.int .i64 1,.slice l5 d3.length l6,.slice none 0 0],.string (⟨#[109,101]⟩:ByteArray)] rfl tz0 ?_;(refine (nomination_Start.calls k 3 0 1 _ _ d3 _ _ ([]:List (S30)) (⟨#[109,101]⟩:ByteArray) e1 e2 e3 e4 e5 e6 e7 e8 e9 f0 b2 f1 d4 _ ?side1 ?side2 ?side3 ?side4 A2.out).mono ?_);(case side1=>exact Kd.C_q ((Kd.R_reads' a3.out).2.2));(case side2=>exact (Kd.R_reads' a3.out).2.1);(case side3=>exact Kd.C_nil _ _);(case side4=>exact Nat.le_refl _);rintro e t3 ⟨g5,g6,g7,g8,g9,h0,rfl,b3,d7,b4,b5,b6,d8,hb⟩;refine ⟨_,rfl,?_⟩;refine ap9 (Kd.R_mono (Kd.R_told (Kd.R_told (Kd.R_told (Kd.R_old (Kd.R_q a1.out) hb) (Kd.R_base b4)) (Kd.R_base b5)) (Kd.R_base b6)) (fun _ h_=>h_.1)) (Kd.R_elder' (Kd.R_q a3.out) (Kd.R_base b3) hb) (Kd.R_lower (Kd.R_new' b3 (Kd.R_lt (Kd.R_q a3.out))) (below_size (belowP HB))) (Kd.R_lower (Kd.R_new' d7 (Kd.R_lt (Kd.R_q a3.out))) (below_size (belowP HB))) (Kd.R_lower (Kd.R_new' b4 (Kd.R_lt (Kd.R_q a1.out))) (below_size (belowP HB))) (Kd.R_lower (Kd.R_new' b5 (Kd.R_lt (Kd.R_q a1.out))) (below_size (belowP HB))) (Kd.R_lower (Kd.R_new' b6 (Kd.R_lt (Kd.R_q a1.out))) (below_size (belowP HB))) (Kd.R_lower (Kd.R_new' (Kd.R_new' d8 (Kd.R_lt (Kd.R_q a1.out))) (Kd.R_lt (Kd.R_q a3.out))) (below_size (belowP HB))) (below_step (belowP HB) hb) ?_;clear a1 a3 HB;intro a1 a3 a7 a8 a9 b0 a4 b1 HB)|((with_reducible refine gate_dst (N:=3) rfl ?_);(try (refine gate_guard (by rfl) ?_;dsimp only));refine box_event ?hg (N:=3) ?hd (cs:=#[.int .i64 0,.int .i64 0,.int .i64 0,.int .i64 0,.int .i64 0,.slice none 0 0,.slice none 0 0,.string (⟨#[]⟩:ByteArray),.slice none 0 0,.slice none 0 0,.slice none 0 0,.slice none 0 0]) (t:=33) ?hr ?_;(case hd=>rfl);(case hg=>rfl);(case hr=>first|(go_simp;done)|(go_simp;rfl));intro a2 hg c0 hbox hb;refine ap12 (Kd.R_below (Kd.R_q a1.out) hb) (Kd.R_below (Kd.R_q a3.out) hb) (Kd.R_below (Kd.R_q a7.out) hb) (Kd.R_below (Kd.R_q a8.out) hb) (Kd.R_below (Kd.R_q a9.out) hb) (Kd.R_below (Kd.R_q b0.out) hb) (Kd.R_below (Kd.R_q a4.out) hb) (Kd.R_below (Kd.R_q b1.out) hb) (below_step (belowP HB) hb) (hbox) ((by rw [hg];exact (below_size (belowP HB)):w.heap.size≤a2)) ((by rw [hg];exact (below_size (belowP HB)):w.heap.size≤a2)) ?_;clear a1 a3 a7 a8 a9 b0 a4 b1 HB;intro a1 a3 a7 a8 a9 b0 a4 b1 HB a0 GW601 d9;clear hb hbox hg;have t4:c0.cell? ⟨a2,0,none⟩=some (.int .i64 0):=(blk_cell a0.out 0).trans rfl;have t5:c0.cell? ⟨a2,1,none⟩=some (.int .i64 0):=(blk_cell a0.out 1).trans rfl;have t6:c0.cell? ⟨a2,2,none⟩=some (.int .i64 0):=(blk_cell a0.out 2).trans rfl;have t7:c0.cell? ⟨a2,3,none⟩=some (.int .i64 0):=(blk_cell a0.out 3).trans rfl;have t8:c0.cell? ⟨a2,4,none⟩=some (.int .i64 0):=(blk_cell a0.out 4).trans rfl;have t9:c0.cell? ⟨a2,5,none⟩=some (.slice none 0 0):=(blk_cell a0.out 5).trans rfl;have u0:c0.cell? ⟨a2,6,none⟩=some (.slice none 0 0):=(blk_cell a0.out 6).trans rfl;have u1:c0.cell? ⟨a2,7,none⟩=some (.string (⟨#[]⟩:ByteArray)):=(blk_cell a0.out 7).trans rfl;have u2:c0.cell? ⟨a2,8,none⟩=some (.slice none 0 0):=(blk_cell a0.out 8).trans rfl;have u3:c0.cell? ⟨a2,9,none⟩=some (.slice none 0 0):=(blk_cell a0.out 9).trans rfl;have u4:c0.cell? ⟨a2,10,none⟩=some (.slice none 0 0):=(blk_cell a0.out 10).trans rfl;have u5:c0.cell? ⟨a2,11,none⟩=some (.slice none 0 0):=(blk_cell a0.out 11).trans rfl;have u6:=blk_frozen a0.out 0;have u7:=blk_frozen a0.out 1;have u9:=blk_frozen a0.out 2;have v0:=blk_frozen a0.out 3;have v1:=blk_frozen a0.out 4;have v2:=blk_frozen a0.out 5;have v3:=blk_frozen a0.out 6;have v4:=blk_frozen a0.out 7;have v5:=blk_frozen a0.out 8;have v6:=blk_frozen a0.out 9;have v7:=blk_frozen a0.out 10;have v8:=blk_frozen a0.out 11;obtain ⟨v9,w0,l8⟩:=Kd.R_slice a7.out;subst l8;obtain ⟨w1,w2,l9⟩:=Kd.R_slice a8.out;subst l9;obtain ⟨w3,w4,m0⟩:=Kd.R_slice a9.out;subst m0;obtain ⟨w5,w6,m1⟩:=Kd.R_slice b0.out;subst m1;obtain ⟨w7,w9,m2⟩:=Kd.R_slice a4.out;subst m2;obtain ⟨x0,x1,m3⟩:=Kd.R_slice b1.out;subst m3))
     go_ret
     exact ⟨rE,by repeat (first|(with_reducible first|exact HB.out|apply below_alloc|apply pw_below_drewN|apply below_drew1|refine below_set ?_ d9.out)|exact HB.out)⟩
   ·rw [if_neg c5] at H
    have h9:(d4 == 0)=false:=beq_eq_false_iff_ne.mpr c5
    have i0:(d4 != 0)=true:=bne_iff_ne.mpr c5
    obtain rfl:=Option.some.inj H
    go_enter Try.func4,Try.ntmps4
    go_wp2_with (first|((with_reducible refine gate_dst (N:=6) rfl ?_);(try (refine gate_guard (by rfl) ?_;dsimp only));refine Kd.R_lit Kd.string _ 9 ?hg (N:=6) ?hd (xs:=([(⟨#[98]⟩:ByteArray),(⟨#[97,97]⟩:ByteArray),(⟨#[97,98]⟩:ByteArray)]:List ByteArray)) (inner:=[.string (⟨#[98]⟩:ByteArray),.string (⟨#[97,97]⟩:ByteArray),.string (⟨#[97,98]⟩:ByteArray)]) (ok:=fun _=>True) (okp:=fun _=>True) ?hr ?hp (fun _ hk=>hk) trivial (Below.refl _ _) (Nat.le_refl _) (by simp) ?_;(case hd=>rfl);(case hg=>rfl);(case hr=>first|(go_simp;done)|(go_simp;rfl));(case hp=>exact (Reps.one (show Kd.M Kd.string _ _ _ (⟨#[98]⟩:ByteArray) [.string (⟨#[98]⟩:ByteArray)] from rfl) (Reps.one (show Kd.M Kd.string _ _ _ (⟨#[97,97]⟩:ByteArray) [.string (⟨#[97,97]⟩:ByteArray)] from rfl) (Reps.one (show Kd.M Kd.string _ _ _ (⟨#[97,98]⟩:ByteArray) [.string (⟨#[97,98]⟩:ByteArray)] from rfl) (Reps.none _ _)))));intro g3 x2 f6 hb hg_ hnew_;clear hg_ hnew_;(first|rw [← d5.out] at f6|(simp only [Int.reduceToNat] at f6;rw [← d5.out] at f6));refine ap2 (Kd.R_lower f6 (below_size (belowP HB))) (below_step (belowP HB) hb) ?_;clear HB;intro a1 HB;clear hb f6;obtain ⟨m4,m5,m6⟩:=Kd.R_slice a1.out;subst m6)|((with_reducible refine gate_callee (f:=5) rfl ?_);refine goesL_ (some 7) rfl rfl Try.func5 (by kernel_rfl) rfl #[.slice m4 d2.length m5] rfl tz0 ?_;(with_reducible refine (nomination_Composite.calls k _ _ d2 b7 true _ ?side1 ?side2 A1.out).mono ?_);(case side1=>exact Kd.C_q ((Kd.R_reads' a1.out).2.2));(case side2=>exact (Kd.R_reads' a1.out).2.1);rintro e x3 ⟨rfl,hb⟩;refine ⟨_,rfl,?_⟩;refine ap2 (Kd.R_below (Kd.R_q a1.out) hb) (below_step (belowP HB) hb) ?_;clear a1 HB;intro a1 HB)|((with_reducible refine gate_dst (N:=11) rfl ?_);(try (refine gate_guard (by rfl) ?_;dsimp only));refine Kd.R_lit (Kd.int .i64) _ 3 ?hg (N:=11) ?hd (xs:=([3]:List Int)) (inner:=[.int .i64 3]) (ok:=fun _=>True) (okp:=fun _=>True) ?hr ?hp (fun _ hk=>hk) trivial (Below.refl _ _) (Nat.le_refl _) (by simp) ?_;(case hd=>rfl);(case hg=>rfl);(case hr=>first|(go_simp;done)|(go_simp;rfl));(case hp=>exact (Reps.one (show Kd.M (Kd.int .i64) _ _ _ 3 [.int .i64 3] from rfl) (Reps.none _ _)));intro g4 x4 f7 hb hg_ hnew_;clear hg_ hnew_;(first|rw [← d6.out] at f7|(simp only [Int.reduceToNat] at f7;rw [← d6.out] at f7));refine ap3 (Kd.R_below (Kd.R_q a1.out) hb) (Kd.R_lower f7 (below_size (belowP HB))) (below_step (belowP HB) hb) ?_;clear a1 HB;intro a1 a3 HB;clear hb f7;obtain ⟨m7,m8,m9⟩:=Kd.R_slice a3.out;subst m9)|((with_reducible refine gate_callee (f:=7) rfl ?_);refine goesL_ (some 13) rfl rfl Try.func7 (by kernel_rfl) rfl #[.int .i64 3,.int .i64 0,.agg #[.int .i64 1,.slice m7 d3.length m8,.slice none 0 0],.string (⟨#[109,101]⟩:ByteArray)] rfl tz0 ?_;(refine (nomination_Start.calls k 3 0 1 _ _ d3 _ _ ([]:List (S30)) (⟨#[109,101]⟩:ByteArray) e1 e2 e3 e4 e5 e6 e7 e8 e9 f0 b2 f1 d4 _ ?side1 ?side2 ?side3 ?side4 A2.out).mono ?_);(case side1=>exact Kd.C_q ((Kd.R_reads' a3.out).2.2));(case side2=>exact (Kd.R_reads' a3.out).2.1);(case side3=>exact Kd.C_nil _ _);(case side4=>exact Nat.le_refl _);rintro e x5 ⟨g5,g6,g7,g8,g9,h0,rfl,b3,d7,b4,b5,b6,d8,hb⟩;refine ⟨_,rfl,?_⟩;refine ap9 (Kd.R_mono (Kd.R_told (Kd.R_told (Kd.R_told (Kd.R_old (Kd.R_q a1.out) hb) (Kd.R_base b4)) (Kd.R_base b5)) (Kd.R_base b6)) (fun _ h_=>h_.1)) (Kd.R_elder' (Kd.R_q a3.out) (Kd.R_base b3) hb) (Kd.R_lower (Kd.R_new' b3 (Kd.R_lt (Kd.R_q a3.out))) (below_size (belowP HB))) (Kd.R_lower (Kd.R_new' d7 (Kd.R_lt (Kd.R_q a3.out))) (below_size (belowP HB))) (Kd.R_lower (Kd.R_new' b4 (Kd.R_lt (Kd.R_q a1.out))) (below_size (belowP HB))) (Kd.R_lower (Kd.R_new' b5 (Kd.R_lt (Kd.R_q a1.out))) (below_size (belowP HB))) (Kd.R_lower (Kd.R_new' b6 (Kd.R_lt (Kd.R_q a1.out))) (below_size (belowP HB))) (Kd.R_lower (Kd.R_new' (Kd.R_new' d8 (Kd.R_lt (Kd.R_q a1.out))) (Kd.R_lt (Kd.R_q a3.out))) (below_size (belowP HB))) (below_step (belowP HB) hb) ?_;clear a1 a3 HB;intro a1 a3 a7 a8 a9 b0 a4 b1 HB)|((with_reducible refine gate_dst (N:=3) rfl ?_);(try (refine gate_guard (by rfl) ?_;dsimp only));refine box_event ?hg (N:=3) ?hd (cs:=#[.int .i64 0,.int .i64 0,.int .i64 0,.int .i64 0,.int .i64 0,.slice none 0 0,.slice none 0 0,.string (⟨#[]⟩:ByteArray),.slice none 0 0,.slice none 0 0,.slice none 0 0,.slice none 0 0]) (t:=33) ?hr ?_;(case hd=>rfl);(case hg=>rfl);(case hr=>first|(go_simp;done)|(go_simp;rfl));intro a2 hg c1 hbox hb;refine ap12 (Kd.R_below (Kd.R_q a1.out) hb) (Kd.R_below (Kd.R_q a3.out) hb) (Kd.R_below (Kd.R_q a7.out) hb) (Kd.R_below (Kd.R_q a8.out) hb) (Kd.R_below (Kd.R_q a9.out) hb) (Kd.R_below (Kd.R_q b0.out) hb) (Kd.R_below (Kd.R_q a4.out) hb) (Kd.R_below (Kd.R_q b1.out) hb) (below_step (belowP HB) hb) (hbox) ((by rw [hg];exact (below_size (belowP HB)):w.heap.size≤a2)) ((by rw [hg];exact (below_size (belowP HB)):w.heap.size≤a2)) ?_;clear a1 a3 a7 a8 a9 b0 a4 b1 HB;intro a1 a3 a7 a8 a9 b0 a4 b1 HB a0 GW601 d9;clear hb hbox hg;have x6:c1.cell? ⟨a2,0,none⟩=some (.int .i64 0):=(blk_cell a0.out 0).trans rfl;have x7:c1.cell? ⟨a2,1,none⟩=some (.int .i64 0):=(blk_cell a0.out 1).trans rfl;have x8:c1.cell? ⟨a2,2,none⟩=some (.int .i64 0):=(blk_cell a0.out 2).trans rfl;have x9:c1.cell? ⟨a2,3,none⟩=some (.int .i64 0):=(blk_cell a0.out 3).trans rfl;have y0:c1.cell? ⟨a2,4,none⟩=some (.int .i64 0):=(blk_cell a0.out 4).trans rfl;have y1:c1.cell? ⟨a2,5,none⟩=some (.slice none 0 0):=(blk_cell a0.out 5).trans rfl;have y2:c1.cell? ⟨a2,6,none⟩=some (.slice none 0 0):=(blk_cell a0.out 6).trans rfl;have y3:c1.cell? ⟨a2,7,none⟩=some (.string (⟨#[]⟩:ByteArray)):=(blk_cell a0.out 7).trans rfl;have y4:c1.cell? ⟨a2,8,none⟩=some (.slice none 0 0):=(blk_cell a0.out 8).trans rfl;have y5:c1.cell? ⟨a2,9,none⟩=some (.slice none 0 0):=(blk_cell a0.out 9).trans rfl;have y6:c1.cell? ⟨a2,10,none⟩=some (.slice none 0 0):=(blk_cell a0.out 10).trans rfl;have y7:c1.cell? ⟨a2,11,none⟩=some (.slice none 0 0):=(blk_cell a0.out 11).trans rfl;have y8:=blk_frozen a0.out 0;have y9:=blk_frozen a0.out 1;have z0:=blk_frozen a0.out 2;have z1:=blk_frozen a0.out 3;have z2:=blk_frozen a0.out 4;have z3:=blk_frozen a0.out 5;have z4:=blk_frozen a0.out 6;have z5:=blk_frozen a0.out 7;have z6:=blk_frozen a0.out 8;have z7:=blk_frozen a0.out 9;have z8:=blk_frozen a0.out 10;have z9:=blk_frozen a0.out 11;obtain ⟨A0,A3,n0⟩:=Kd.R_slice a7.out;subst n0;obtain ⟨A4,A5,n1⟩:=Kd.R_slice a8.out;subst n1;obtain ⟨A6,A7,n2⟩:=Kd.R_slice a9.out;subst n2;obtain ⟨A8,A9,n3⟩:=Kd.R_slice b0.out;subst n3;obtain ⟨B0,B2,n4⟩:=Kd.R_slice a4.out;subst n4;obtain ⟨C0,C1,n5⟩:=Kd.R_slice b1.out;subst n5))
    go_ret
    exact ⟨rE,by repeat (first|(with_reducible first|exact HB.out|apply below_alloc|apply pw_below_drewN|apply below_drew1|refine below_set ?_ d9.out)|exact HB.out)⟩
  ·rw [if_neg c4] at H
   have h7:(b7.toList == ([97,98]:List UInt8))=false:=beq_eq_false_iff_ne.mpr c4
   have h8:(b7.toList != ([97,98]:List UInt8))=true:=bne_iff_ne.mpr c4
   obtain rfl:=Option.some.inj H
   go_enter Try.func4,Try.ntmps4
   go_wp2_with (first|((with_reducible refine gate_dst (N:=6) rfl ?_);(try (refine gate_guard (by rfl) ?_;dsimp only));refine Kd.R_lit Kd.string _ 9 ?hg (N:=6) ?hd (xs:=([(⟨#[98]⟩:ByteArray),(⟨#[97,97]⟩:ByteArray),(⟨#[97,98]⟩:ByteArray)]:List ByteArray)) (inner:=[.string (⟨#[98]⟩:ByteArray),.string (⟨#[97,97]⟩:ByteArray),.string (⟨#[97,98]⟩:ByteArray)]) (ok:=fun _=>True) (okp:=fun _=>True) ?hr ?hp (fun _ hk=>hk) trivial (Below.refl _ _) (Nat.le_refl _) (by simp) ?_;(case hd=>rfl);(case hg=>rfl);(case hr=>first|(go_simp;done)|(go_simp;rfl));(case hp=>exact (Reps.one (show Kd.M Kd.string _ _ _ (⟨#[98]⟩:ByteArray) [.string (⟨#[98]⟩:ByteArray)] from rfl) (Reps.one (show Kd.M Kd.string _ _ _ (⟨#[97,97]⟩:ByteArray) [.string (⟨#[97,97]⟩:ByteArray)] from rfl) (Reps.one (show Kd.M Kd.string _ _ _ (⟨#[97,98]⟩:ByteArray) [.string (⟨#[97,98]⟩:ByteArray)] from rfl) (Reps.none _ _)))));intro g3 C2 f8 hb hg_ hnew_;clear hg_ hnew_;(first|rw [← d5.out] at f8|(simp only [Int.reduceToNat] at f8;rw [← d5.out] at f8));refine ap2 (Kd.R_lower f8 (below_size (belowP HB))) (below_step (belowP HB) hb) ?_;clear HB;intro a1 HB;clear hb f8;obtain ⟨n6,n7,n8⟩:=Kd.R_slice a1.out;subst n8)|((with_reducible refine gate_callee (f:=5) rfl ?_);refine goesL_ (some 7) rfl rfl Try.func5 (by kernel_rfl) rfl #[.slice n6 d2.length n7] rfl tz0 ?_;(with_reducible refine (nomination_Composite.calls k _ _ d2 b7 true _ ?side1 ?side2 A1.out).mono ?_);(case side1=>exact Kd.C_q ((Kd.R_reads' a1.out).2.2));(case side2=>exact (Kd.R_reads' a1.out).2.1);rintro e C3 ⟨rfl,hb⟩;refine ⟨_,rfl,?_⟩;refine ap2 (Kd.R_below (Kd.R_q a1.out) hb) (below_step (belowP HB) hb) ?_;clear a1 HB;intro a1 HB)|((with_reducible refine gate_dst (N:=11) rfl ?_);(try (refine gate_guard (by rfl) ?_;dsimp only));refine Kd.R_lit (Kd.int .i64) _ 3 ?hg (N:=11) ?hd (xs:=([3]:List Int)) (inner:=[.int .i64 3]) (ok:=fun _=>True) (okp:=fun _=>True) ?hr ?hp (fun _ hk=>hk) trivial (Below.refl _ _) (Nat.le_refl _) (by simp) ?_;(case hd=>rfl);(case hg=>rfl);(case hr=>first|(go_simp;done)|(go_simp;rfl));(case hp=>exact (Reps.one (show Kd.M (Kd.int .i64) _ _ _ 3 [.int .i64 3] from rfl) (Reps.none _ _)));intro g4 C4 f9 hb hg_ hnew_;clear hg_ hnew_;(first|rw [← d6.out] at f9|(simp only [Int.reduceToNat] at f9;rw [← d6.out] at f9));refine ap3 (Kd.R_below (Kd.R_q a1.out) hb) (Kd.R_lower f9 (below_size (belowP HB))) (below_step (belowP HB) hb) ?_;clear a1 HB;intro a1 a3 HB;clear hb f9;obtain ⟨n9,o0,o1⟩:=Kd.R_slice a3.out;subst o1)|((with_reducible refine gate_callee (f:=7) rfl ?_);refine goesL_ (some 13) rfl rfl Try.func7 (by kernel_rfl) rfl #[.int .i64 3,.int .i64 0,.agg #[.int .i64 1,.slice n9 d3.length o0,.slice none 0 0],.string (⟨#[109,101]⟩:ByteArray)] rfl tz0 ?_;(refine (nomination_Start.calls k 3 0 1 _ _ d3 _ _ ([]:List (S30)) (⟨#[109,101]⟩:ByteArray) e1 e2 e3 e4 e5 e6 e7 e8 e9 f0 b2 f1 d4 _ ?side1 ?side2 ?side3 ?side4 A2.out).mono ?_);(case side1=>exact Kd.C_q ((Kd.R_reads' a3.out).2.2));(case side2=>exact (Kd.R_reads' a3.out).2.1);(case side3=>exact Kd.C_nil _ _);(case side4=>exact Nat.le_refl _);rintro e C5 ⟨g5,g6,g7,g8,g9,h0,rfl,b3,d7,b4,b5,b6,d8,hb⟩;refine ⟨_,rfl,?_⟩;refine ap9 (Kd.R_mono (Kd.R_told (Kd.R_told (Kd.R_told (Kd.R_old (Kd.R_q a1.out) hb) (Kd.R_base b4)) (Kd.R_base b5)) (Kd.R_base b6)) (fun _ h_=>h_.1)) (Kd.R_elder' (Kd.R_q a3.out) (Kd.R_base b3) hb) (Kd.R_lower (Kd.R_new' b3 (Kd.R_lt (Kd.R_q a3.out))) (below_size (belowP HB))) (Kd.R_lower (Kd.R_new' d7 (Kd.R_lt (Kd.R_q a3.out))) (below_size (belowP HB))) (Kd.R_lower (Kd.R_new' b4 (Kd.R_lt (Kd.R_q a1.out))) (below_size (belowP HB))) (Kd.R_lower (Kd.R_new' b5 (Kd.R_lt (Kd.R_q a1.out))) (below_size (belowP HB))) (Kd.R_lower (Kd.R_new' b6 (Kd.R_lt (Kd.R_q a1.out))) (below_size (belowP HB))) (Kd.R_lower (Kd.R_new' (Kd.R_new' d8 (Kd.R_lt (Kd.R_q a1.out))) (Kd.R_lt (Kd.R_q a3.out))) (below_size (belowP HB))) (below_step (belowP HB) hb) ?_;clear a1 a3 HB;intro a1 a3 a7 a8 a9 b0 a4 b1 HB)|((with_reducible refine gate_dst (N:=3) rfl ?_);(try (refine gate_guard (by rfl) ?_;dsimp only));refine box_event ?hg (N:=3) ?hd (cs:=#[.int .i64 0,.int .i64 0,.int .i64 0,.int .i64 0,.int .i64 0,.slice none 0 0,.slice none 0 0,.string (⟨#[]⟩:ByteArray),.slice none 0 0,.slice none 0 0,.slice none 0 0,.slice none 0 0]) (t:=33) ?hr ?_;(case hd=>rfl);(case hg=>rfl);(case hr=>first|(go_simp;done)|(go_simp;rfl));intro a2 hg d0 hbox hb;refine ap12 (Kd.R_below (Kd.R_q a1.out) hb) (Kd.R_below (Kd.R_q a3.out) hb) (Kd.R_below (Kd.R_q a7.out) hb) (Kd.R_below (Kd.R_q a8.out) hb) (Kd.R_below (Kd.R_q a9.out) hb) (Kd.R_below (Kd.R_q b0.out) hb) (Kd.R_below (Kd.R_q a4.out) hb) (Kd.R_below (Kd.R_q b1.out) hb) (below_step (belowP HB) hb) (hbox) ((by rw [hg];exact (below_size (belowP HB)):w.heap.size≤a2)) ((by rw [hg];exact (below_size (belowP HB)):w.heap.size≤a2)) ?_;clear a1 a3 a7 a8 a9 b0 a4 b1 HB;intro a1 a3 a7 a8 a9 b0 a4 b1 HB a0 GW601 d9;clear hb hbox hg;have C6:d0.cell? ⟨a2,0,none⟩=some (.int .i64 0):=(blk_cell a0.out 0).trans rfl;have C7:d0.cell? ⟨a2,1,none⟩=some (.int .i64 0):=(blk_cell a0.out 1).trans rfl;have C8:d0.cell? ⟨a2,2,none⟩=some (.int .i64 0):=(blk_cell a0.out 2).trans rfl;have C9:d0.cell? ⟨a2,3,none⟩=some (.int .i64 0):=(blk_cell a0.out 3).trans rfl;have D0:d0.cell? ⟨a2,4,none⟩=some (.int .i64 0):=(blk_cell a0.out 4).trans rfl;have D1:d0.cell? ⟨a2,5,none⟩=some (.slice none 0 0):=(blk_cell a0.out 5).trans rfl;have D2:d0.cell? ⟨a2,6,none⟩=some (.slice none 0 0):=(blk_cell a0.out 6).trans rfl;have D3:d0.cell? ⟨a2,7,none⟩=some (.string (⟨#[]⟩:ByteArray)):=(blk_cell a0.out 7).trans rfl;have D4:d0.cell? ⟨a2,8,none⟩=some (.slice none 0 0):=(blk_cell a0.out 8).trans rfl;have D5:d0.cell? ⟨a2,9,none⟩=some (.slice none 0 0):=(blk_cell a0.out 9).trans rfl;have D6:d0.cell? ⟨a2,10,none⟩=some (.slice none 0 0):=(blk_cell a0.out 10).trans rfl;have D7:d0.cell? ⟨a2,11,none⟩=some (.slice none 0 0):=(blk_cell a0.out 11).trans rfl;have D8:=blk_frozen a0.out 0;have D9:=blk_frozen a0.out 1;have E0:=blk_frozen a0.out 2;have E1:=blk_frozen a0.out 3;have E2:=blk_frozen a0.out 4;have E3:=blk_frozen a0.out 5;have E4:=blk_frozen a0.out 6;have E5:=blk_frozen a0.out 7;have E6:=blk_frozen a0.out 8;have E7:=blk_frozen a0.out 9;have E8:=blk_frozen a0.out 10;have E9:=blk_frozen a0.out 11;obtain ⟨F0,F1,o2⟩:=Kd.R_slice a7.out;subst o2;obtain ⟨F2,F3,o3⟩:=Kd.R_slice a8.out;subst o3;obtain ⟨F4,F5,o4⟩:=Kd.R_slice a9.out;subst o4;obtain ⟨F6,F7,o5⟩:=Kd.R_slice b0.out;subst o5;obtain ⟨F8,F9,o6⟩:=Kd.R_slice a4.out;subst o6;obtain ⟨G0,G1,o7⟩:=Kd.R_slice b1.out;subst o7))
   go_ret
   exact ⟨rE,by repeat (first|(with_reducible first|exact HB.out|apply below_alloc|apply pw_below_drewN|apply below_drew1|refine below_set ?_ d9.out)|exact HB.out)⟩
 ·replace c3:=Bool.eq_false_iff.mpr c3
  subst c3
  rw [if_neg (show ¬ (false=true) by decide)] at H
  obtain rfl:=Option.some.inj H
  go_enter Try.func4,Try.ntmps4
  go_wp2_with (first|((with_reducible refine gate_dst (N:=6) rfl ?_);(try (refine gate_guard (by rfl) ?_;dsimp only));refine Kd.R_lit Kd.string _ 9 ?hg (N:=6) ?hd (xs:=([(⟨#[98]⟩:ByteArray),(⟨#[97,97]⟩:ByteArray),(⟨#[97,98]⟩:ByteArray)]:List ByteArray)) (inner:=[.string (⟨#[98]⟩:ByteArray),.string (⟨#[97,97]⟩:ByteArray),.string (⟨#[97,98]⟩:ByteArray)]) (ok:=fun _=>True) (okp:=fun _=>True) ?hr ?hp (fun _ hk=>hk) trivial (Below.refl _ _) (Nat.le_refl _) (by simp) ?_;(case hd=>rfl);(case hg=>rfl);(case hr=>first|(go_simp;done)|(go_simp;rfl));(case hp=>exact (Reps.one (show Kd.M Kd.string _ _ _ (⟨#[98]⟩:ByteArray) [.string (⟨#[98]⟩:ByteArray)] from rfl) (Reps.one (show Kd.M Kd.string _ _ _ (⟨#[97,97]⟩:ByteArray) [.string (⟨#[97,97]⟩:ByteArray)] from rfl) (Reps.one (show Kd.M Kd.string _ _ _ (⟨#[97,98]⟩:ByteArray) [.string (⟨#[97,98]⟩:ByteArray)] from rfl) (Reps.none _ _)))));intro g3 G2 g0 hb hg_ hnew_;clear hg_ hnew_;(first|rw [← d5.out] at g0|(simp only [Int.reduceToNat] at g0;rw [← d5.out] at g0));refine ap2 (Kd.R_lower g0 (below_size (belowP HB))) (below_step (belowP HB) hb) ?_;clear HB;intro a1 HB;clear hb g0;obtain ⟨o8,o9,p0⟩:=Kd.R_slice a1.out;subst p0)|((with_reducible refine gate_callee (f:=5) rfl ?_);refine goesL_ (some 7) rfl rfl Try.func5 (by kernel_rfl) rfl #[.slice o8 d2.length o9] rfl tz0 ?_;(with_reducible refine (nomination_Composite.calls k _ _ d2 b7 false _ ?side1 ?side2 A1.out).mono ?_);(case side1=>exact Kd.C_q ((Kd.R_reads' a1.out).2.2));(case side2=>exact (Kd.R_reads' a1.out).2.1);rintro e G3 ⟨rfl,hb⟩;refine ⟨_,rfl,?_⟩;refine ap2 (Kd.R_below (Kd.R_q a1.out) hb) (below_step (belowP HB) hb) ?_;clear a1 HB;intro a1 HB)|((with_reducible refine gate_dst (N:=11) rfl ?_);(try (refine gate_guard (by rfl) ?_;dsimp only));refine Kd.R_lit (Kd.int .i64) _ 3 ?hg (N:=11) ?hd (xs:=([3]:List Int)) (inner:=[.int .i64 3]) (ok:=fun _=>True) (okp:=fun _=>True) ?hr ?hp (fun _ hk=>hk) trivial (Below.refl _ _) (Nat.le_refl _) (by simp) ?_;(case hd=>rfl);(case hg=>rfl);(case hr=>first|(go_simp;done)|(go_simp;rfl));(case hp=>exact (Reps.one (show Kd.M (Kd.int .i64) _ _ _ 3 [.int .i64 3] from rfl) (Reps.none _ _)));intro g4 G4 g1 hb hg_ hnew_;clear hg_ hnew_;(first|rw [← d6.out] at g1|(simp only [Int.reduceToNat] at g1;rw [← d6.out] at g1));refine ap3 (Kd.R_below (Kd.R_q a1.out) hb) (Kd.R_lower g1 (below_size (belowP HB))) (below_step (belowP HB) hb) ?_;clear a1 HB;intro a1 a3 HB;clear hb g1;obtain ⟨p1,p2,p3⟩:=Kd.R_slice a3.out;subst p3)|((with_reducible refine gate_callee (f:=7) rfl ?_);refine goesL_ (some 13) rfl rfl Try.func7 (by kernel_rfl) rfl #[.int .i64 3,.int .i64 0,.agg #[.int .i64 1,.slice p1 d3.length p2,.slice none 0 0],.string (⟨#[109,101]⟩:ByteArray)] rfl tz0 ?_;(refine (nomination_Start.calls k 3 0 1 _ _ d3 _ _ ([]:List (S30)) (⟨#[109,101]⟩:ByteArray) e1 e2 e3 e4 e5 e6 e7 e8 e9 f0 b2 f1 d4 _ ?side1 ?side2 ?side3 ?side4 A2.out).mono ?_);(case side1=>exact Kd.C_q ((Kd.R_reads' a3.out).2.2));(case side2=>exact (Kd.R_reads' a3.out).2.1);(case side3=>exact Kd.C_nil _ _);(case side4=>exact Nat.le_refl _);rintro e G5 ⟨g5,g6,g7,g8,g9,h0,rfl,b3,d7,b4,b5,b6,d8,hb⟩;refine ⟨_,rfl,?_⟩;refine ap9 (Kd.R_mono (Kd.R_told (Kd.R_told (Kd.R_told (Kd.R_old (Kd.R_q a1.out) hb) (Kd.R_base b4)) (Kd.R_base b5)) (Kd.R_base b6)) (fun _ h_=>h_.1)) (Kd.R_elder' (Kd.R_q a3.out) (Kd.R_base b3) hb) (Kd.R_lower (Kd.R_new' b3 (Kd.R_lt (Kd.R_q a3.out))) (below_size (belowP HB))) (Kd.R_lower (Kd.R_new' d7 (Kd.R_lt (Kd.R_q a3.out))) (below_size (belowP HB))) (Kd.R_lower (Kd.R_new' b4 (Kd.R_lt (Kd.R_q a1.out))) (below_size (belowP HB))) (Kd.R_lower (Kd.R_new' b5 (Kd.R_lt (Kd.R_q a1.out))) (below_size (belowP HB))) (Kd.R_lower (Kd.R_new' b6 (Kd.R_lt (Kd.R_q a1.out))) (below_size (belowP HB))) (Kd.R_lower (Kd.R_new' (Kd.R_new' d8 (Kd.R_lt (Kd.R_q a1.out))) (Kd.R_lt (Kd.R_q a3.out))) (below_size (belowP HB))) (below_step (belowP HB) hb) ?_;clear a1 a3 HB;intro a1 a3 a7 a8 a9 b0 a4 b1 HB)|((with_reducible refine gate_dst (N:=3) rfl ?_);(try (refine gate_guard (by rfl) ?_;dsimp only));refine box_event ?hg (N:=3) ?hd (cs:=#[.int .i64 0,.int .i64 0,.int .i64 0,.int .i64 0,.int .i64 0,.slice none 0 0,.slice none 0 0,.string (⟨#[]⟩:ByteArray),.slice none 0 0,.slice none 0 0,.slice none 0 0,.slice none 0 0]) (t:=33) ?hr ?_;(case hd=>rfl);(case hg=>rfl);(case hr=>first|(go_simp;done)|(go_simp;rfl));intro a2 hg d1 hbox hb;refine ap12 (Kd.R_below (Kd.R_q a1.out) hb) (Kd.R_below (Kd.R_q a3.out) hb) (Kd.R_below (Kd.R_q a7.out) hb) (Kd.R_below (Kd.R_q a8.out) hb) (Kd.R_below (Kd.R_q a9.out) hb) (Kd.R_below (Kd.R_q b0.out) hb) (Kd.R_below (Kd.R_q a4.out) hb) (Kd.R_below (Kd.R_q b1.out) hb) (below_step (belowP HB) hb) (hbox) ((by rw [hg];exact (below_size (belowP HB)):w.heap.size≤a2)) ((by rw [hg];exact (below_size (belowP HB)):w.heap.size≤a2)) ?_;clear a1 a3 a7 a8 a9 b0 a4 b1 HB;intro a1 a3 a7 a8 a9 b0 a4 b1 HB a0 GW601 d9;clear hb hbox hg;have G6:d1.cell? ⟨a2,0,none⟩=some (.int .i64 0):=(blk_cell a0.out 0).trans rfl;have G7:d1.cell? ⟨a2,1,none⟩=some (.int .i64 0):=(blk_cell a0.out 1).trans rfl;have G8:d1.cell? ⟨a2,2,none⟩=some (.int .i64 0):=(blk_cell a0.out 2).trans rfl;have G9:d1.cell? ⟨a2,3,none⟩=some (.int .i64 0):=(blk_cell a0.out 3).trans rfl;have H0:d1.cell? ⟨a2,4,none⟩=some (.int .i64 0):=(blk_cell a0.out 4).trans rfl;have H1:d1.cell? ⟨a2,5,none⟩=some (.slice none 0 0):=(blk_cell a0.out 5).trans rfl;have H2:d1.cell? ⟨a2,6,none⟩=some (.slice none 0 0):=(blk_cell a0.out 6).trans rfl;have H3:d1.cell? ⟨a2,7,none⟩=some (.string (⟨#[]⟩:ByteArray)):=(blk_cell a0.out 7).trans rfl;have H4:d1.cell? ⟨a2,8,none⟩=some (.slice none 0 0):=(blk_cell a0.out 8).trans rfl;have H5:d1.cell? ⟨a2,9,none⟩=some (.slice none 0 0):=(blk_cell a0.out 9).trans rfl;have H6:d1.cell? ⟨a2,10,none⟩=some (.slice none 0 0):=(blk_cell a0.out 10).trans rfl;have H7:d1.cell? ⟨a2,11,none⟩=some (.slice none 0 0):=(blk_cell a0.out 11).trans rfl;have H8:=blk_frozen a0.out 0;have H9:=blk_frozen a0.out 1;have I0:=blk_frozen a0.out 2;have I1:=blk_frozen a0.out 3;have I2:=blk_frozen a0.out 4;have I3:=blk_frozen a0.out 5;have I4:=blk_frozen a0.out 6;have I5:=blk_frozen a0.out 7;have I6:=blk_frozen a0.out 8;have I7:=blk_frozen a0.out 9;have I8:=blk_frozen a0.out 10;have I9:=blk_frozen a0.out 11;obtain ⟨J0,J1,p4⟩:=Kd.R_slice a7.out;subst p4;obtain ⟨J2,J3,p5⟩:=Kd.R_slice a8.out;subst p5;obtain ⟨J4,J5,p6⟩:=Kd.R_slice a9.out;subst p6;obtain ⟨J6,J7,p7⟩:=Kd.R_slice b0.out;subst p7;obtain ⟨J8,J9,p8⟩:=Kd.R_slice a4.out;subst p8;obtain ⟨K0,K1,p9⟩:=Kd.R_slice b1.out;subst p9))
  go_ret
  exact ⟨rE,by repeat (first|(with_reducible first|exact HB.out|apply below_alloc|apply pw_below_drewN|apply below_drew1|refine below_set ?_ d9.out)|exact HB.out)⟩
mutual
def tNC.j0:Nat→List ByteArray→List ByteArray→Bool→Option (Bool)
 | 0,_,_,_=>none
 | k + 1,x0,x1,n2=>if n2=true then ((trustquorumlaw22_awake.f k).bind fun g3=>(some g3)) else ((some (([]:List ByteArray):List ByteArray)).bind fun d5=>(if d5.length + x0.length < 8796093022208 then ((some (d5 ++ x0:List ByteArray)).bind fun d1=>(if d1.length + x1.length < 8796093022208 then ((nomination_Composite.f k (d1 ++ x1)).bind fun a3=>((some (([]:List ByteArray):List ByteArray)).bind fun b1=>(if b1.length + x1.length < 8796093022208 then ((some (b1 ++ x1:List ByteArray)).bind fun a9=>(if a9.length + x0.length < 8796093022208 then ((nomination_Composite.f k (a9 ++ x0)).bind fun b0=>((nomination_Composite.f k x0).bind fun a8=>((nomination_Composite.f k x1).bind fun a7=>((nomination_Composite.f k (([a8.1,a7.1]:List ByteArray))).bind fun a4=>(if a3.1.toList=b0.1.toList then (if (a3.2 != b0.2)=true then (tNC.j1 k x0 x1 a3.1 a3.2 true) else (if a3.1.toList=a4.1.toList then (if (a3.2 != a4.2)=true then (tNC.j1 k x0 x1 a3.1 a3.2 true) else (if a8.2=true then (tNC.j1 k x0 x1 a3.1 a3.2 (a3.2 != true)) else (tNC.j1 k x0 x1 a3.1 a3.2 (a3.2 != a7.2)))) else (tNC.j1 k x0 x1 a3.1 a3.2 true))) else (tNC.j1 k x0 x1 a3.1 a3.2 true)))))) else (none))) else (none)))) else (none))) else (none)))
def tNC.j1:Nat→List ByteArray→List ByteArray→ByteArray→Bool→Bool→Option (Bool)
 | 0,_,_,_,_,_=>none
 | k + 1,x0,x1,x5,x6,n3=>if n3=true then (some false) else (if x6=true then ((some (([]:List ByteArray):List ByteArray)).bind fun b7=>(if b7.length + x0.length < 8796093022208 then ((some (b7 ++ x0:List ByteArray)).bind fun b3=>(if b3.length + x1.length < 8796093022208 then ((trustquorumlaw22_kept.f k (([x5]:List ByteArray)) (b3 ++ x1)).bind fun b8=>(if b8=true then ((trustquorumlaw22_awake.f k).bind fun b4=>(some b4)) else (some false))) else (none))) else (none))) else ((trustquorumlaw22_awake.f k).bind fun g4=>(some g4)))
end
def tNC.f (k:Nat) (l0:List ByteArray) (l1:List ByteArray):Option (Bool):=if (l0.length:Int) > 40 then (tNC.j0 k l0 l1 true) else (tNC.j0 k l0 l1 (decide ((l1.length:Int) > 40)))
set_option maxHeartbeats 8000000 in
set_option maxRecDepth 100000 in
theorem tNC.calls (k:Nat) (A0:Option Addr) (c0:Nat) (l0:List ByteArray) (A1:Option Addr) (c1:Nat) (l1:List ByteArray) (r:Bool) (w:World) (j7:Kd.C Kd.string w A0 l0.length l0) (j8:l0.length≤c0) (j9:Kd.C Kd.string w A1 l1.length l1) (k0:l1.length≤c1) (h:tNC.f k l0 l1=some r) :
  Calls Try.prog 3 #[.slice A0 l0.length c0,.slice A1 l1.length c1] w fun e w'=>e = .returned (.bool r)∧Below w.heap.size w w':=by
 have f0:=Aside0.mk j7
 have n4:=Aside0.mk j8
 clear j7 j8
 have f1:=Aside0.mk j9
 have n5:=Aside0.mk k0
 clear j9 k0
 have HB:=Aside0.mk (Below.refl w.heap.size w)
 have H:(if (l0.length:Int) > 40 then (tNC.j0 k l0 l1 true) else (tNC.j0 k l0 l1 (decide ((l1.length:Int) > 40))))=some r:=h
 clear h
 have h4:=Aside0.mk H
 clear H
 go_enter Try.func3,Try.ntmps3
 go_upto_region 1 with (fail)
 go_cut [22] (fun n6 wc=>∃ (kq:Nat) (g5:Bool),n6 = .bool g5∧Aside0 (tNC.j0 kq l0 l1 g5=some r)∧Aside0 (kq≤k)∧Aside0 (Below w.heap.size w wc))
 case first=>
  have H:=h4.out
  clear h4
  by_cases c4:(l0.length:Int) > 40
  ·rw [if_pos c4] at H
   have d9:decide (40 < (l0.length:Int))=true:=decide_eq_true c4
   have h5:decide (40 < l0.length)=true:=decide_eq_true (by omega)
   clear c4
   (first|rw [d9] | (simp only [i64_w,i32_w];rw [d9])|skip)
   have H':=Aside0.mk H
   clear H
   go_wp2
   go_meet
   case rel=>exact ⟨_,(true),tz3,H',⟨by first|omega|exact Nat.le_refl _⟩,⟨by repeat (first|(with_reducible first|exact HB.out|apply below_alloc|apply pw_below_drewN|apply below_drew1)|exact HB.out)⟩⟩
  ·rw [if_neg c4] at H
   have d9:decide (40 < (l0.length:Int))=false:=decide_eq_false c4
   have h5:decide (40 < l0.length)=false:=decide_eq_false (by omega)
   clear c4
   (first|rw [d9] | (simp only [i64_w,i32_w];rw [d9])|skip)
   have H':=Aside0.mk H
   clear H
   go_wp2
   go_meet
   case rel=>exact ⟨_,(decide ((l1.length:Int) > 40)),tz3,H',⟨by first|omega|exact Nat.le_refl _⟩,⟨by repeat (first|(with_reducible first|exact HB.out|apply below_alloc|apply pw_below_drewN|apply below_drew1)|exact HB.out)⟩⟩
 case rest=>
  clear h4
  try clear c1
  try clear c4
  try clear d9
  try clear h5
  try clear HB
  obtain ⟨kq,g5,rfl,HA,HJ2,HB⟩:=hcut
  cases kq with
  | zero=>exact absurd HA.out (by simp [tNC.j0])
  | succ a0=>
   have H:=HA.out
   clear HA
   simp only [tNC.j0] at H
   by_cases c5:g5=true
   ·subst c5
    rw [if_pos rfl] at H
    replace H:=Option.bind_eq_some_iff.mp H
    obtain ⟨g3,k1,H⟩:=H
    replace H:(some g3)=some r:=H
    have A6:=Aside0.mk k1
    clear k1
    obtain rfl:=Option.some.inj H
    go_wp2_with (first|((with_reducible refine gate_callee (f:=4) rfl ?_);refine goesL_ (some 23) rfl rfl Try.func4 (by kernel_rfl) rfl #[] rfl tz0 ?_;(with_reducible refine (trustquorumlaw22_awake.calls a0  g3 _ A6.out).mono ?_);rintro e w7 ⟨rfl,hb⟩;refine ⟨_,rfl,?_⟩;refine ap1 (below_step (belowP HB) hb) ?_;clear HB;intro HB))
    go_ret
    exact ⟨rE,by repeat (first|(with_reducible first|exact HB.out|apply below_alloc|apply pw_below_drewN|apply below_drew1)|exact HB.out)⟩
   ·replace c5:=Bool.eq_false_iff.mpr c5
    subst c5
    rw [if_neg (show ¬ (false=true) by decide)] at H
    obtain ⟨d5,h6⟩:∃ y_:List ByteArray,y_=(([]:List ByteArray)):=⟨_,rfl⟩
    replace H:(if d5.length + l0.length < 8796093022208 then ((some (d5 ++ l0:List ByteArray)).bind fun d1=>(if d1.length + l1.length < 8796093022208 then ((nomination_Composite.f a0 (d1 ++ l1)).bind fun a3=>((some (([]:List ByteArray):List ByteArray)).bind fun b1=>(if b1.length + l1.length < 8796093022208 then ((some (b1 ++ l1:List ByteArray)).bind fun a9=>(if a9.length + l0.length < 8796093022208 then ((nomination_Composite.f a0 (a9 ++ l0)).bind fun b0=>((nomination_Composite.f a0 l0).bind fun a8=>((nomination_Composite.f a0 l1).bind fun a7=>((nomination_Composite.f a0 (([a8.1,a7.1]:List ByteArray))).bind fun a4=>(if a3.1.toList=b0.1.toList then (if (a3.2 != b0.2)=true then (tNC.j1 a0 l0 l1 a3.1 a3.2 true) else (if a3.1.toList=a4.1.toList then (if (a3.2 != a4.2)=true then (tNC.j1 a0 l0 l1 a3.1 a3.2 true) else (if a8.2=true then (tNC.j1 a0 l0 l1 a3.1 a3.2 (a3.2 != true)) else (tNC.j1 a0 l0 l1 a3.1 a3.2 (a3.2 != a7.2)))) else (tNC.j1 a0 l0 l1 a3.1 a3.2 true))) else (tNC.j1 a0 l0 l1 a3.1 a3.2 true)))))) else (none))) else (none)))) else (none))) else (none))=some r:=rH h6 H
    have k2:=Aside0.mk h6
    clear h6
    by_cases c8:d5.length + l0.length < 8796093022208
    ·rw [if_pos c8] at H
     have LMc8:=Aside0.mk c8
     clear c8
     obtain ⟨d1,h7⟩:∃ y_:List ByteArray,y_=(d5 ++ l0):=⟨_,rfl⟩
     replace H:(if d1.length + l1.length < 8796093022208 then ((nomination_Composite.f a0 (d1 ++ l1)).bind fun a3=>((some (([]:List ByteArray):List ByteArray)).bind fun b1=>(if b1.length + l1.length < 8796093022208 then ((some (b1 ++ l1:List ByteArray)).bind fun a9=>(if a9.length + l0.length < 8796093022208 then ((nomination_Composite.f a0 (a9 ++ l0)).bind fun b0=>((nomination_Composite.f a0 l0).bind fun a8=>((nomination_Composite.f a0 l1).bind fun a7=>((nomination_Composite.f a0 (([a8.1,a7.1]:List ByteArray))).bind fun a4=>(if a3.1.toList=b0.1.toList then (if (a3.2 != b0.2)=true then (tNC.j1 a0 l0 l1 a3.1 a3.2 true) else (if a3.1.toList=a4.1.toList then (if (a3.2 != a4.2)=true then (tNC.j1 a0 l0 l1 a3.1 a3.2 true) else (if a8.2=true then (tNC.j1 a0 l0 l1 a3.1 a3.2 (a3.2 != true)) else (tNC.j1 a0 l0 l1 a3.1 a3.2 (a3.2 != a7.2)))) else (tNC.j1 a0 l0 l1 a3.1 a3.2 true))) else (tNC.j1 a0 l0 l1 a3.1 a3.2 true)))))) else (none))) else (none)))) else (none))=some r:=rH h7 H
     have n7:=Aside0.mk h7
     clear h7
     by_cases c9:d1.length + l1.length < 8796093022208
     ·rw [if_pos c9] at H
      have LMc9:=Aside0.mk c9
      clear c9
      obtain ⟨f2,h8⟩:∃ y_:List ByteArray,y_=(d1 ++ l1):=⟨_,rfl⟩
      replace H:((nomination_Composite.f a0 f2).bind fun a3=>((some (([]:List ByteArray):List ByteArray)).bind fun b1=>(if b1.length + l1.length < 8796093022208 then ((some (b1 ++ l1:List ByteArray)).bind fun a9=>(if a9.length + l0.length < 8796093022208 then ((nomination_Composite.f a0 (a9 ++ l0)).bind fun b0=>((nomination_Composite.f a0 l0).bind fun a8=>((nomination_Composite.f a0 l1).bind fun a7=>((nomination_Composite.f a0 (([a8.1,a7.1]:List ByteArray))).bind fun a4=>(if a3.1.toList=b0.1.toList then (if (a3.2 != b0.2)=true then (tNC.j1 a0 l0 l1 a3.1 a3.2 true) else (if a3.1.toList=a4.1.toList then (if (a3.2 != a4.2)=true then (tNC.j1 a0 l0 l1 a3.1 a3.2 true) else (if a8.2=true then (tNC.j1 a0 l0 l1 a3.1 a3.2 (a3.2 != true)) else (tNC.j1 a0 l0 l1 a3.1 a3.2 (a3.2 != a7.2)))) else (tNC.j1 a0 l0 l1 a3.1 a3.2 true))) else (tNC.j1 a0 l0 l1 a3.1 a3.2 true)))))) else (none))) else (none))))=some r:=rH h8 H
      have n8:=Aside0.mk h8
      clear h8
      replace H:=Option.bind_eq_some_iff.mp H
      obtain ⟨⟨a2,a1⟩,k3,H⟩:=H
      replace H:((some (([]:List ByteArray):List ByteArray)).bind fun b1=>(if b1.length + l1.length < 8796093022208 then ((some (b1 ++ l1:List ByteArray)).bind fun a9=>(if a9.length + l0.length < 8796093022208 then ((nomination_Composite.f a0 (a9 ++ l0)).bind fun b0=>((nomination_Composite.f a0 l0).bind fun a8=>((nomination_Composite.f a0 l1).bind fun a7=>((nomination_Composite.f a0 (([a8.1,a7.1]:List ByteArray))).bind fun a4=>(if a2.toList=b0.1.toList then (if (a1 != b0.2)=true then (tNC.j1 a0 l0 l1 a2 a1 true) else (if a2.toList=a4.1.toList then (if (a1 != a4.2)=true then (tNC.j1 a0 l0 l1 a2 a1 true) else (if a8.2=true then (tNC.j1 a0 l0 l1 a2 a1 (a1 != true)) else (tNC.j1 a0 l0 l1 a2 a1 (a1 != a7.2)))) else (tNC.j1 a0 l0 l1 a2 a1 true))) else (tNC.j1 a0 l0 l1 a2 a1 true)))))) else (none))) else (none)))=some r:=H
      have n9:=Aside0.mk k3
      clear k3
      obtain ⟨b1,h9⟩:∃ y_:List ByteArray,y_=(([]:List ByteArray)):=⟨_,rfl⟩
      replace H:(if b1.length + l1.length < 8796093022208 then ((some (b1 ++ l1:List ByteArray)).bind fun a9=>(if a9.length + l0.length < 8796093022208 then ((nomination_Composite.f a0 (a9 ++ l0)).bind fun b0=>((nomination_Composite.f a0 l0).bind fun a8=>((nomination_Composite.f a0 l1).bind fun a7=>((nomination_Composite.f a0 (([a8.1,a7.1]:List ByteArray))).bind fun a4=>(if a2.toList=b0.1.toList then (if (a1 != b0.2)=true then (tNC.j1 a0 l0 l1 a2 a1 true) else (if a2.toList=a4.1.toList then (if (a1 != a4.2)=true then (tNC.j1 a0 l0 l1 a2 a1 true) else (if a8.2=true then (tNC.j1 a0 l0 l1 a2 a1 (a1 != true)) else (tNC.j1 a0 l0 l1 a2 a1 (a1 != a7.2)))) else (tNC.j1 a0 l0 l1 a2 a1 true))) else (tNC.j1 a0 l0 l1 a2 a1 true)))))) else (none))) else (none))=some r:=rH h9 H
      have k4:=Aside0.mk h9
      clear h9
      by_cases f3:b1.length + l1.length < 8796093022208
      ·rw [if_pos f3] at H
       have LMc11:=Aside0.mk f3
       clear f3
       obtain ⟨a9,i0⟩:∃ y_:List ByteArray,y_=(b1 ++ l1):=⟨_,rfl⟩
       replace H:(if a9.length + l0.length < 8796093022208 then ((nomination_Composite.f a0 (a9 ++ l0)).bind fun b0=>((nomination_Composite.f a0 l0).bind fun a8=>((nomination_Composite.f a0 l1).bind fun a7=>((nomination_Composite.f a0 (([a8.1,a7.1]:List ByteArray))).bind fun a4=>(if a2.toList=b0.1.toList then (if (a1 != b0.2)=true then (tNC.j1 a0 l0 l1 a2 a1 true) else (if a2.toList=a4.1.toList then (if (a1 != a4.2)=true then (tNC.j1 a0 l0 l1 a2 a1 true) else (if a8.2=true then (tNC.j1 a0 l0 l1 a2 a1 (a1 != true)) else (tNC.j1 a0 l0 l1 a2 a1 (a1 != a7.2)))) else (tNC.j1 a0 l0 l1 a2 a1 true))) else (tNC.j1 a0 l0 l1 a2 a1 true)))))) else (none))=some r:=rH i0 H
       have o0:=Aside0.mk i0
       clear i0
       by_cases f4:a9.length + l0.length < 8796093022208
       ·rw [if_pos f4] at H
        have LMc12:=Aside0.mk f4
        clear f4
        obtain ⟨i1,i2⟩:∃ y_:List ByteArray,y_=(a9 ++ l0):=⟨_,rfl⟩
        replace H:((nomination_Composite.f a0 i1).bind fun b0=>((nomination_Composite.f a0 l0).bind fun a8=>((nomination_Composite.f a0 l1).bind fun a7=>((nomination_Composite.f a0 (([a8.1,a7.1]:List ByteArray))).bind fun a4=>(if a2.toList=b0.1.toList then (if (a1 != b0.2)=true then (tNC.j1 a0 l0 l1 a2 a1 true) else (if a2.toList=a4.1.toList then (if (a1 != a4.2)=true then (tNC.j1 a0 l0 l1 a2 a1 true) else (if a8.2=true then (tNC.j1 a0 l0 l1 a2 a1 (a1 != true)) else (tNC.j1 a0 l0 l1 a2 a1 (a1 != a7.2)))) else (tNC.j1 a0 l0 l1 a2 a1 true))) else (tNC.j1 a0 l0 l1 a2 a1 true))))))=some r:=rH i2 H
        have o1:=Aside0.mk i2
        clear i2
        replace H:=Option.bind_eq_some_iff.mp H
        obtain ⟨⟨d2,b5⟩,k5,H⟩:=H
        replace H:((nomination_Composite.f a0 l0).bind fun a8=>((nomination_Composite.f a0 l1).bind fun a7=>((nomination_Composite.f a0 (([a8.1,a7.1]:List ByteArray))).bind fun a4=>(if a2.toList=d2.toList then (if (a1 != b5)=true then (tNC.j1 a0 l0 l1 a2 a1 true) else (if a2.toList=a4.1.toList then (if (a1 != a4.2)=true then (tNC.j1 a0 l0 l1 a2 a1 true) else (if a8.2=true then (tNC.j1 a0 l0 l1 a2 a1 (a1 != true)) else (tNC.j1 a0 l0 l1 a2 a1 (a1 != a7.2)))) else (tNC.j1 a0 l0 l1 a2 a1 true))) else (tNC.j1 a0 l0 l1 a2 a1 true)))))=some r:=H
        have o2:=Aside0.mk k5
        clear k5
        replace H:=Option.bind_eq_some_iff.mp H
        obtain ⟨⟨d6,e3⟩,k6,H⟩:=H
        replace H:((nomination_Composite.f a0 l1).bind fun a7=>((nomination_Composite.f a0 (([d6,a7.1]:List ByteArray))).bind fun a4=>(if a2.toList=d2.toList then (if (a1 != b5)=true then (tNC.j1 a0 l0 l1 a2 a1 true) else (if a2.toList=a4.1.toList then (if (a1 != a4.2)=true then (tNC.j1 a0 l0 l1 a2 a1 true) else (if e3=true then (tNC.j1 a0 l0 l1 a2 a1 (a1 != true)) else (tNC.j1 a0 l0 l1 a2 a1 (a1 != a7.2)))) else (tNC.j1 a0 l0 l1 a2 a1 true))) else (tNC.j1 a0 l0 l1 a2 a1 true))))=some r:=H
        have o3:=Aside0.mk k6
        clear k6
        replace H:=Option.bind_eq_some_iff.mp H
        obtain ⟨⟨e0,f5⟩,k7,H⟩:=H
        replace H:((nomination_Composite.f a0 (([d6,e0]:List ByteArray))).bind fun a4=>(if a2.toList=d2.toList then (if (a1 != b5)=true then (tNC.j1 a0 l0 l1 a2 a1 true) else (if a2.toList=a4.1.toList then (if (a1 != a4.2)=true then (tNC.j1 a0 l0 l1 a2 a1 true) else (if e3=true then (tNC.j1 a0 l0 l1 a2 a1 (a1 != true)) else (tNC.j1 a0 l0 l1 a2 a1 (a1 != f5)))) else (tNC.j1 a0 l0 l1 a2 a1 true))) else (tNC.j1 a0 l0 l1 a2 a1 true)))=some r:=H
        have o4:=Aside0.mk k7
        clear k7
        obtain ⟨i3,i4⟩:∃ y_:List ByteArray,y_=(([d6,e0]:List ByteArray)):=⟨_,rfl⟩
        replace H:((nomination_Composite.f a0 i3).bind fun a4=>(if a2.toList=d2.toList then (if (a1 != b5)=true then (tNC.j1 a0 l0 l1 a2 a1 true) else (if a2.toList=a4.1.toList then (if (a1 != a4.2)=true then (tNC.j1 a0 l0 l1 a2 a1 true) else (if e3=true then (tNC.j1 a0 l0 l1 a2 a1 (a1 != true)) else (tNC.j1 a0 l0 l1 a2 a1 (a1 != f5)))) else (tNC.j1 a0 l0 l1 a2 a1 true))) else (tNC.j1 a0 l0 l1 a2 a1 true)))=some r:=rH i4 H
        have k8:=Aside0.mk i4
        clear i4
        replace H:=Option.bind_eq_some_iff.mp H
        obtain ⟨⟨e1,d3⟩,k9,H⟩:=H
        replace H:(if a2.toList=d2.toList then (if (a1 != b5)=true then (tNC.j1 a0 l0 l1 a2 a1 true) else (if a2.toList=e1.toList then (if (a1 != d3)=true then (tNC.j1 a0 l0 l1 a2 a1 true) else (if e3=true then (tNC.j1 a0 l0 l1 a2 a1 (a1 != true)) else (tNC.j1 a0 l0 l1 a2 a1 (a1 != f5)))) else (tNC.j1 a0 l0 l1 a2 a1 true))) else (tNC.j1 a0 l0 l1 a2 a1 true))=some r:=H
        have o5:=Aside0.mk k9
        clear k9
        have i5:=Aside0.mk H
        clear H
        go_upto_region 8 with (first|((with_reducible refine gate_dst (N:=25) rfl ?_);(try (refine gate_guard (by rfl) ?_;dsimp only));refine Kd.R_lit Kd.string _ 9 ?hg (N:=25) ?hd (xs:=([]:List ByteArray)) (inner:=[]) (ok:=fun _=>True) (okp:=fun _=>True) ?hr ?hp (fun _ hk=>hk) trivial (Below.refl _ _) (Nat.le_refl _) (by simp) ?_;(case hd=>rfl);(case hg=>rfl);(case hr=>first|(go_simp;done)|(go_simp;rfl));(case hp=>exact (Reps.none _ _));intro o6 q5 f6 hb hg_ hnew_;clear hg_ hnew_;(first|rw [← k2.out] at f6|(simp only [Int.reduceToNat] at f6;rw [← k2.out] at f6));refine ap2 (Kd.R_lower f6 (below_size (belowP HB))) (below_step (belowP HB) hb) ?_;clear HB;intro l3 HB;clear hb f6)|((with_reducible refine gate_builtin (b:=.append) (xs:=#[.tmp 25,.tmp 26]) rfl ?_);(try (refine gate_guard (by rfl) ?_;dsimp only));at_builtin;refine Kd.R_append_rows Kd.string (w0:=w) w.heap.size rfl (.tmp 25) (.tmp 26) 22 9 (.string ⟨#[]⟩) 16 rfl Try.underlying22 info9 rfl (by decide) (by omega) o6 d5 l0 _ _ _ (fun _=>True) (fun _=>False) rfl rfl ?aO ?aR (fun _ _ h=>h) (fun _ h=>h.elim) ?aF ?aB ?aS ?aL ?_;(case aR=>exact Kd.C_q (Kd.C_below f0.out HB.out));(case aB=>exact (belowP HB));(case aF=>exact (fun _ _=>trivial));(case aO=>exact (Kd.R_q l3.out));(case aS=>exact (below_size (belowP HB)));(case aL=>have:=LMc8.out;omega);intro o7 q6 ho hb hg hat;rw [← n7.out] at ho;refine ap2 (hb) (ho) ?_;clear HB l3;intro HB l4;clear ho hb hg hat)|((with_reducible refine gate_builtin (b:=.append) (xs:=#[.tmp 27,.tmp 28]) rfl ?_);(try (refine gate_guard (by rfl) ?_;dsimp only));at_builtin;refine Kd.R_append_rows Kd.string (w0:=w) w.heap.size rfl (.tmp 27) (.tmp 28) 22 9 (.string ⟨#[]⟩) 16 rfl Try.underlying22 info9 rfl (by decide) (by omega) o7 d1 l1 _ _ _ (fun _=>True) (fun _=>False) rfl rfl ?aO ?aR (fun _ _ h=>h) (fun _ h=>h.elim) ?aF ?aB ?aS ?aL ?_;(case aR=>exact Kd.C_q (Kd.C_below f1.out HB.out));(case aB=>exact (belowP HB));(case aF=>exact (fun _ _=>trivial));(case aO=>exact (Kd.R_q l4.out));(case aS=>exact (below_size (belowP HB)));(case aL=>have:=LMc9.out;omega);intro q7 q8 ho hb hg hat;rw [← n8.out] at ho;refine ap2 (hb) (ho) ?_;clear HB l4;intro HB a5;clear ho hb hg hat;obtain ⟨i6,i7,o8⟩:=Kd.R_slice a5.out;subst o8)|((with_reducible refine gate_callee (f:=5) rfl ?_);refine goesL_ (some 30) rfl rfl Try.func5 (by kernel_rfl) rfl #[.slice i6 f2.length i7] rfl tz0 ?_;(with_reducible refine (nomination_Composite.calls a0 _ _ f2 a2 a1 _ ?side1 ?side2 n9.out).mono ?_);(case side1=>exact Kd.C_q ((Kd.R_reads' a5.out).2.2));(case side2=>exact (Kd.R_reads' a5.out).2.1);rintro e q9 ⟨rfl,hb⟩;refine ⟨_,rfl,?_⟩;refine ap2 (Kd.R_below (Kd.R_q a5.out) hb) (below_step (belowP HB) hb) ?_;clear a5 HB;intro a5 HB)|((with_reducible refine gate_dst (N:=34) rfl ?_);(try (refine gate_guard (by rfl) ?_;dsimp only));refine Kd.R_lit Kd.string _ 9 ?hg (N:=34) ?hd (xs:=([]:List ByteArray)) (inner:=[]) (ok:=fun _=>True) (okp:=fun _=>True) ?hr ?hp (fun _ hk=>hk) trivial (Below.refl _ _) (Nat.le_refl _) (by simp) ?_;(case hd=>rfl);(case hg=>rfl);(case hr=>first|(go_simp;done)|(go_simp;rfl));(case hp=>exact (Reps.none _ _));intro o9 r0 e4 hb hg_ hnew_;clear hg_ hnew_;(first|rw [← k4.out] at e4|(simp only [Int.reduceToNat] at e4;rw [← k4.out] at e4));refine ap3 (Kd.R_elder' (Kd.R_q a5.out) (Kd.R_base e4) hb) (Kd.R_lower (Kd.R_new' e4 (Kd.R_lt (Kd.R_q a5.out))) (below_size (belowP HB))) (below_step (belowP HB) hb) ?_;clear a5 HB;intro a5 l5 HB;clear hb e4)|((with_reducible refine gate_builtin (b:=.append) (xs:=#[.tmp 34,.tmp 35]) rfl ?_);(try (refine gate_guard (by rfl) ?_;dsimp only));at_builtin;refine Kd.R_append_rows Kd.string (w0:=w) w.heap.size rfl (.tmp 34) (.tmp 35) 22 9 (.string ⟨#[]⟩) 16 rfl Try.underlying22 info9 rfl (by decide) (by omega) o9 b1 l1 _ _ _ (fun k_=>some k_≠(.slice i6 f2.length i7:Value).ownBlock) (fun _=>False) rfl rfl ?aO ?aR (fun _ _ h=>h) (fun _ h=>h.elim) ?aF ?aB ?aS ?aL ?_;(case aR=>exact Kd.C_q (Kd.C_below f1.out HB.out));(case aB=>exact (belowP HB));(case aF=>exact (fun k_ hk=>Kd.fresh' (Kd.R_lt (Kd.R_q a5.out)) k_ hk));(case aO=>exact (by refine Kd.R_q ?_;exact Kd.R_mono l5.out (fun _ hk=>hk.2)));(case aS=>exact (below_size (belowP HB)));(case aL=>have:=LMc11.out;omega);intro p0 r1 ho hb hg hat;rw [← o0.out] at ho;refine ap3 (Kd.R_after (ok:=(fun _=>True)) (Kd.R_q a5.out) hg hat) (hb) (ho) ?_;clear a5 HB l5;intro a5 HB l6;clear ho hb hg hat)|((with_reducible refine gate_builtin (b:=.append) (xs:=#[.tmp 36,.tmp 37]) rfl ?_);(try (refine gate_guard (by rfl) ?_;dsimp only));at_builtin;refine Kd.R_append_rows Kd.string (w0:=w) w.heap.size rfl (.tmp 36) (.tmp 37) 22 9 (.string ⟨#[]⟩) 16 rfl Try.underlying22 info9 rfl (by decide) (by omega) p0 a9 l0 _ _ _ (fun k_=>some k_≠(.slice i6 f2.length i7:Value).ownBlock) (fun _=>False) rfl rfl ?aO ?aR (fun _ _ h=>h) (fun _ h=>h.elim) ?aF ?aB ?aS ?aL ?_;(case aR=>exact Kd.C_q (Kd.C_below f0.out HB.out));(case aB=>exact (belowP HB));(case aF=>exact (fun k_ hk=>Kd.fresh' (Kd.R_lt (Kd.R_q a5.out)) k_ hk));(case aO=>exact (Kd.R_q l6.out));(case aS=>exact (below_size (belowP HB)));(case aL=>have:=LMc12.out;omega);intro r2 r3 ho hb hg hat;rw [← o1.out] at ho;refine ap3 (Kd.R_after (ok:=(fun _=>True)) (Kd.R_q a5.out) hg hat) (hb) (ho) ?_;clear a5 HB l6;intro a5 HB b2;clear ho hb hg hat;obtain ⟨p1,p2,p3⟩:=Kd.R_slice b2.out;subst p3)|((with_reducible refine gate_callee (f:=5) rfl ?_);refine goesL_ (some 39) rfl rfl Try.func5 (by kernel_rfl) rfl #[.slice p1 i1.length p2] rfl tz0 ?_;(with_reducible refine (nomination_Composite.calls a0 _ _ i1 d2 b5 _ ?side1 ?side2 o2.out).mono ?_);(case side1=>exact Kd.C_q ((Kd.R_reads' b2.out).2.2));(case side2=>exact (Kd.R_reads' b2.out).2.1);rintro e r4 ⟨rfl,hb⟩;refine ⟨_,rfl,?_⟩;refine ap3 (Kd.R_below (Kd.R_q a5.out) hb) (Kd.R_below (Kd.R_q b2.out) hb) (below_step (belowP HB) hb) ?_;clear a5 b2 HB;intro a5 b2 HB)|((with_reducible refine gate_callee (f:=5) rfl ?_);refine goesL_ (some 44) rfl rfl Try.func5 (by kernel_rfl) rfl #[.slice A0 l0.length c0] rfl tz0 ?_;(with_reducible refine (nomination_Composite.calls a0 _ _ l0 d6 e3 _ ?side1 ?side2 o3.out).mono ?_);(case side1=>exact Kd.C_q (Kd.C_below f0.out HB.out));(case side2=>exact n4.out);rintro e r5 ⟨rfl,hb⟩;refine ⟨_,rfl,?_⟩;refine ap3 (Kd.R_below (Kd.R_q a5.out) hb) (Kd.R_below (Kd.R_q b2.out) hb) (below_step (belowP HB) hb) ?_;clear a5 b2 HB;intro a5 b2 HB)|((with_reducible refine gate_callee (f:=5) rfl ?_);refine goesL_ (some 49) rfl rfl Try.func5 (by kernel_rfl) rfl #[.slice A1 l1.length c1] rfl tz0 ?_;(with_reducible refine (nomination_Composite.calls a0 _ _ l1 e0 f5 _ ?side1 ?side2 o4.out).mono ?_);(case side1=>exact Kd.C_q (Kd.C_below f1.out HB.out));(case side2=>exact n5.out);rintro e r6 ⟨rfl,hb⟩;refine ⟨_,rfl,?_⟩;refine ap3 (Kd.R_below (Kd.R_q a5.out) hb) (Kd.R_below (Kd.R_q b2.out) hb) (below_step (belowP HB) hb) ?_;clear a5 b2 HB;intro a5 b2 HB)|((with_reducible refine gate_dst (N:=55) rfl ?_);(try (refine gate_guard (by rfl) ?_;dsimp only));refine Kd.R_lit Kd.string _ 9 ?hg (N:=55) ?hd (xs:=([d6,e0]:List ByteArray)) (inner:=[.string d6,.string e0]) (ok:=fun _=>True) (okp:=fun _=>True) ?hr ?hp (fun _ hk=>hk) trivial (Below.refl _ _) (Nat.le_refl _) (by simp) ?_;(case hd=>rfl);(case hg=>rfl);(case hr=>first|(go_simp;done)|(go_simp;rfl));(case hp=>exact (Reps.one (show Kd.M Kd.string _ _ _ d6 [.string d6] from rfl) (Reps.one (show Kd.M Kd.string _ _ _ e0 [.string e0] from rfl) (Reps.none _ _))));intro r7 r8 e2 hb hg_ hnew_;clear hg_ hnew_;(first|rw [← k8.out] at e2|(simp only [Int.reduceToNat] at e2;rw [← k8.out] at e2));refine ap4 (Kd.R_elder' (Kd.R_q a5.out) (Kd.R_base e2) hb) (Kd.R_elder' (Kd.R_q b2.out) (Kd.R_base e2) hb) (Kd.R_lower (Kd.R_new' (Kd.R_new' e2 (Kd.R_lt (Kd.R_q a5.out))) (Kd.R_lt (Kd.R_q b2.out))) (below_size (belowP HB))) (below_step (belowP HB) hb) ?_;clear a5 b2 HB;intro a5 b2 e5 HB;clear hb e2;obtain ⟨p4,p5,p6⟩:=Kd.R_slice e5.out;subst p6)|((with_reducible refine gate_callee (f:=5) rfl ?_);refine goesL_ (some 56) rfl rfl Try.func5 (by kernel_rfl) rfl #[.slice p4 i3.length p5] rfl tz0 ?_;(with_reducible refine (nomination_Composite.calls a0 _ _ i3 e1 d3 _ ?side1 ?side2 o5.out).mono ?_);(case side1=>exact Kd.C_q ((Kd.R_reads' e5.out).2.2));(case side2=>exact (Kd.R_reads' e5.out).2.1);rintro e r9 ⟨rfl,hb⟩;refine ⟨_,rfl,?_⟩;refine ap4 (Kd.R_below (Kd.R_q a5.out) hb) (Kd.R_below (Kd.R_q b2.out) hb) (Kd.R_below (Kd.R_q e5.out) hb) (below_step (belowP HB) hb) ?_;clear a5 b2 e5 HB;intro a5 b2 e5 HB))
        (try simp only [Act.put,List.setIfInBounds_toArray,List.set_cons_zero,List.set_cons_succ])
        go_cut [84] (fun p7 wc=>∃ (kq:Nat) (g6:Bool),p7 = .bool g6∧Aside0 (tNC.j1 kq l0 l1 a2 a1 g6=some r)∧Aside0 (kq≤a0)∧Aside0 (Below w.heap.size w wc))
        case first=>
         have H:=i5.out
         clear i5
         by_cases d7:a2.toList=d2.toList
         ·rw [if_pos d7] at H
          have e6:(a2.toList == d2.toList)=true:=beq_iff_eq.mpr d7
          have l7:(a2.toList != d2.toList)=false:=bne_eq_false_iff_eq.mpr d7
          clear d7
          (first|rw [e6] | (simp only [i64_w,i32_w];rw [e6])|skip)
          by_cases b9:(a1 != b5)=true
          ·rw [if_pos b9] at H
           have l8:(a1 != b5)=true:=b9
           (try (have l9:decide (a1=b5)=false:=by simpa using b9))
           (try (have m0:(a1 == b5)=false:=by simpa using b9))
           (try (have s0 : ¬ (a1=b5):=by simpa using b9))
           clear b9
           have H':=Aside0.mk H
           clear H
           go_wp2
           go_meet
           case rel=>exact ⟨_,(true),tz3,H',⟨by have:=HJ2.out;first|omega|exact Nat.le_refl _⟩,⟨by repeat (first|(with_reducible first|exact HB.out|apply below_alloc|apply pw_below_drewN|apply below_drew1)|exact HB.out)⟩⟩
          ·rw [if_neg b9] at H
           have l8:(a1 != b5)=false:=by simpa using b9
           (try (have l9:decide (a1=b5)=true:=by simpa using b9))
           (try (have m0:(a1 == b5)=true:=by simpa using b9))
           clear b9
           by_cases d8:a2.toList=e1.toList
           ·rw [if_pos d8] at H
            have m1:(a2.toList == e1.toList)=true:=beq_iff_eq.mpr d8
            have m2:(a2.toList != e1.toList)=false:=bne_eq_false_iff_eq.mpr d8
            clear d8
            by_cases d0:(a1 != d3)=true
            ·rw [if_pos d0] at H
             have m3:(a1 != d3)=true:=d0
             (try (have m4:decide (a1=d3)=false:=by simpa using d0))
             (try (have m5:(a1 == d3)=false:=by simpa using d0))
             (try (have s1 : ¬ (a1=d3):=by simpa using d0))
             clear d0
             have H':=Aside0.mk H
             clear H
             go_wp2
             go_meet
             case rel=>exact ⟨_,(true),tz3,H',⟨by have:=HJ2.out;first|omega|exact Nat.le_refl _⟩,⟨by repeat (first|(with_reducible first|exact HB.out|apply below_alloc|apply pw_below_drewN|apply below_drew1)|exact HB.out)⟩⟩
            ·rw [if_neg d0] at H
             have m3:(a1 != d3)=false:=by simpa using d0
             (try (have m4:decide (a1=d3)=true:=by simpa using d0))
             (try (have m5:(a1 == d3)=true:=by simpa using d0))
             clear d0
             by_cases f7:e3=true
             ·subst f7
              rw [if_pos rfl] at H
              have H':=Aside0.mk H
              clear H
              go_wp2
              go_meet
              case rel=>exact ⟨_,((a1 != true)),tz3,H',⟨by have:=HJ2.out;first|omega|exact Nat.le_refl _⟩,⟨by repeat (first|(with_reducible first|exact HB.out|apply below_alloc|apply pw_below_drewN|apply below_drew1)|exact HB.out)⟩⟩
             ·replace f7:=Bool.eq_false_iff.mpr f7
              subst f7
              rw [if_neg (show ¬ (false=true) by decide)] at H
              have H':=Aside0.mk H
              clear H
              go_wp2
              go_meet
              case rel=>exact ⟨_,((a1 != f5)),tz3,H',⟨by have:=HJ2.out;first|omega|exact Nat.le_refl _⟩,⟨by repeat (first|(with_reducible first|exact HB.out|apply below_alloc|apply pw_below_drewN|apply below_drew1)|exact HB.out)⟩⟩
           ·rw [if_neg d8] at H
            have m1:(a2.toList == e1.toList)=false:=beq_eq_false_iff_ne.mpr d8
            have m2:(a2.toList != e1.toList)=true:=bne_iff_ne.mpr d8
            have H':=Aside0.mk H
            clear H
            go_wp2
            go_meet
            case rel=>exact ⟨_,(true),tz3,H',⟨by have:=HJ2.out;first|omega|exact Nat.le_refl _⟩,⟨by repeat (first|(with_reducible first|exact HB.out|apply below_alloc|apply pw_below_drewN|apply below_drew1)|exact HB.out)⟩⟩
         ·rw [if_neg d7] at H
          have e6:(a2.toList == d2.toList)=false:=beq_eq_false_iff_ne.mpr d7
          have l7:(a2.toList != d2.toList)=true:=bne_iff_ne.mpr d7
          (first|rw [e6] | (simp only [i64_w,i32_w];rw [e6])|skip)
          have H':=Aside0.mk H
          clear H
          go_wp2
          go_meet
          case rel=>exact ⟨_,(true),tz3,H',⟨by have:=HJ2.out;first|omega|exact Nat.le_refl _⟩,⟨by repeat (first|(with_reducible first|exact HB.out|apply below_alloc|apply pw_below_drewN|apply below_drew1)|exact HB.out)⟩⟩
        case rest=>
         clear i5
         try clear c1
         try clear c4
         try clear d9
         try clear h5
         try clear c5
         try clear c8
         try clear c9
         try clear f3
         try clear f4
         try clear d7
         try clear e6
         try clear l7
         try clear b9
         try clear l8
         try clear l9
         try clear m0
         try clear d8
         try clear m1
         try clear m2
         try clear d0
         try clear m3
         try clear m4
         try clear m5
         try clear f7
         try clear HB
         obtain ⟨kq,g6,rfl,HA,HJ16,HB⟩:=hcut
         cases kq with
         | zero=>exact absurd HA.out (by simp [tNC.j1])
         | succ b6=>
          have H:=HA.out
          clear HA
          simp only [tNC.j1] at H
          by_cases g7:g6=true
          ·subst g7
           rw [if_pos rfl] at H
           obtain rfl:=Option.some.inj H
           go_wp2
           go_ret
           exact ⟨rE,by repeat (first|(with_reducible first|exact HB.out|apply below_alloc|apply pw_below_drewN|apply below_drew1)|exact HB.out)⟩
          ·replace g7:=Bool.eq_false_iff.mpr g7
           subst g7
           rw [if_neg (show ¬ (false=true) by decide)] at H
           by_cases g8:a1=true
           ·subst g8
            rw [if_pos rfl] at H
            obtain ⟨e7,i8⟩:∃ y_:List ByteArray,y_=(([a2]:List ByteArray)):=⟨_,rfl⟩
            replace H:((some (([]:List ByteArray):List ByteArray)).bind fun b7=>(if b7.length + l0.length < 8796093022208 then ((some (b7 ++ l0:List ByteArray)).bind fun b3=>(if b3.length + l1.length < 8796093022208 then ((trustquorumlaw22_kept.f b6 e7 (b3 ++ l1)).bind fun b8=>(if b8=true then ((trustquorumlaw22_awake.f b6).bind fun b4=>(some b4)) else (some false))) else (none))) else (none)))=some r:=rH i8 H
            have g9:=Aside0.mk i8
            clear i8
            obtain ⟨b7,i9⟩:∃ y_:List ByteArray,y_=(([]:List ByteArray)):=⟨_,rfl⟩
            replace H:(if b7.length + l0.length < 8796093022208 then ((some (b7 ++ l0:List ByteArray)).bind fun b3=>(if b3.length + l1.length < 8796093022208 then ((trustquorumlaw22_kept.f b6 e7 (b3 ++ l1)).bind fun b8=>(if b8=true then ((trustquorumlaw22_awake.f b6).bind fun b4=>(some b4)) else (some false))) else (none))) else (none))=some r:=rH i9 H
            have h0:=Aside0.mk i9
            clear i9
            by_cases h1:b7.length + l0.length < 8796093022208
            ·rw [if_pos h1] at H
             have LMc43:=Aside0.mk h1
             clear h1
             obtain ⟨b3,j2⟩:∃ y_:List ByteArray,y_=(b7 ++ l0):=⟨_,rfl⟩
             replace H:(if b3.length + l1.length < 8796093022208 then ((trustquorumlaw22_kept.f b6 e7 (b3 ++ l1)).bind fun b8=>(if b8=true then ((trustquorumlaw22_awake.f b6).bind fun b4=>(some b4)) else (some false))) else (none))=some r:=rH j2 H
             have m6:=Aside0.mk j2
             clear j2
             by_cases h2:b3.length + l1.length < 8796093022208
             ·rw [if_pos h2] at H
              have LMc44:=Aside0.mk h2
              clear h2
              obtain ⟨j3,j4⟩:∃ y_:List ByteArray,y_=(b3 ++ l1):=⟨_,rfl⟩
              replace H:((trustquorumlaw22_kept.f b6 e7 j3).bind fun b8=>(if b8=true then ((trustquorumlaw22_awake.f b6).bind fun b4=>(some b4)) else (some false)))=some r:=rH j4 H
              have m7:=Aside0.mk j4
              clear j4
              replace H:=Option.bind_eq_some_iff.mp H
              obtain ⟨b8,m8,H⟩:=H
              replace H:(if b8=true then ((trustquorumlaw22_awake.f b6).bind fun b4=>(some b4)) else (some false))=some r:=H
              have m9:=Aside0.mk m8
              clear m8
              by_cases h3:b8=true
              ·subst h3
               rw [if_pos rfl] at H
               replace H:=Option.bind_eq_some_iff.mp H
               obtain ⟨b4,n0,H⟩:=H
               replace H:(some b4)=some r:=H
               have p8:=Aside0.mk n0
               clear n0
               obtain rfl:=Option.some.inj H
               go_wp2_with (first|((with_reducible refine gate_dst (N:=89) rfl ?_);(try (refine gate_guard (by rfl) ?_;dsimp only));refine Kd.R_lit Kd.string _ 9 ?hg (N:=89) ?hd (xs:=([a2]:List ByteArray)) (inner:=[.string a2]) (ok:=fun _=>True) (okp:=fun _=>True) ?hr ?hp (fun _ hk=>hk) trivial (Below.refl _ _) (Nat.le_refl _) (by simp) ?_;(case hd=>rfl);(case hg=>rfl);(case hr=>first|(go_simp;done)|(go_simp;rfl));(case hp=>exact (Reps.one (show Kd.M Kd.string _ _ _ a2 [.string a2] from rfl) (Reps.none _ _)));intro f8 s2 f9 hb hg_ hnew_;clear hg_ hnew_;(first|rw [← g9.out] at f9|(simp only [Int.reduceToNat] at f9;rw [← g9.out] at f9));refine ap2 (Kd.R_lower f9 (below_size (belowP HB))) (below_step (belowP HB) hb) ?_;clear HB;intro a6 HB;clear hb f9)|((with_reducible refine gate_dst (N:=90) rfl ?_);(try (refine gate_guard (by rfl) ?_;dsimp only));refine Kd.R_lit Kd.string _ 9 ?hg (N:=90) ?hd (xs:=([]:List ByteArray)) (inner:=[]) (ok:=fun _=>True) (okp:=fun _=>True) ?hr ?hp (fun _ hk=>hk) trivial (Below.refl _ _) (Nat.le_refl _) (by simp) ?_;(case hd=>rfl);(case hg=>rfl);(case hr=>first|(go_simp;done)|(go_simp;rfl));(case hp=>exact (Reps.none _ _));intro j5 s3 e8 hb hg_ hnew_;clear hg_ hnew_;(first|rw [← h0.out] at e8|(simp only [Int.reduceToNat] at e8;rw [← h0.out] at e8));refine ap3 (Kd.R_elder' (Kd.R_q a6.out) (Kd.R_base e8) hb) (Kd.R_lower (Kd.R_new' e8 (Kd.R_lt (Kd.R_q a6.out))) (below_size (belowP HB))) (below_step (belowP HB) hb) ?_;clear a6 HB;intro a6 g0 HB;clear hb e8)|((with_reducible refine gate_builtin (b:=.append) (xs:=#[.tmp 90,.tmp 91]) rfl ?_);(try (refine gate_guard (by rfl) ?_;dsimp only));at_builtin;refine Kd.R_append_rows Kd.string (w0:=w) w.heap.size rfl (.tmp 90) (.tmp 91) 22 9 (.string ⟨#[]⟩) 16 rfl Try.underlying22 info9 rfl (by decide) (by omega) j5 b7 l0 _ _ _ (fun k_=>some k_≠(f8:Value).ownBlock) (fun _=>False) rfl rfl ?aO ?aR (fun _ _ h=>h) (fun _ h=>h.elim) ?aF ?aB ?aS ?aL ?_;(case aR=>exact Kd.C_q (Kd.C_below f0.out HB.out));(case aB=>exact (belowP HB));(case aF=>exact (fun k_ hk=>Kd.fresh' (Kd.R_lt (Kd.R_q a6.out)) k_ hk));(case aO=>exact (by refine Kd.R_q ?_;exact Kd.R_mono g0.out (fun _ hk=>hk.2)));(case aS=>exact (below_size (belowP HB)));(case aL=>have:=LMc43.out;omega);intro j6 s4 ho hb hg hat;rw [← m6.out] at ho;refine ap3 (Kd.R_after (ok:=(fun _=>True)) (Kd.R_q a6.out) hg hat) (hb) (ho) ?_;clear a6 HB g0;intro a6 HB g1;clear ho hb hg hat)|((with_reducible refine gate_builtin (b:=.append) (xs:=#[.tmp 92,.tmp 93]) rfl ?_);(try (refine gate_guard (by rfl) ?_;dsimp only));at_builtin;refine Kd.R_append_rows Kd.string (w0:=w) w.heap.size rfl (.tmp 92) (.tmp 93) 22 9 (.string ⟨#[]⟩) 16 rfl Try.underlying22 info9 rfl (by decide) (by omega) j6 b3 l1 _ _ _ (fun k_=>some k_≠(f8:Value).ownBlock) (fun _=>False) rfl rfl ?aO ?aR (fun _ _ h=>h) (fun _ h=>h.elim) ?aF ?aB ?aS ?aL ?_;(case aR=>exact Kd.C_q (Kd.C_below f1.out HB.out));(case aB=>exact (belowP HB));(case aF=>exact (fun k_ hk=>Kd.fresh' (Kd.R_lt (Kd.R_q a6.out)) k_ hk));(case aO=>exact (Kd.R_q g1.out));(case aS=>exact (below_size (belowP HB)));(case aL=>have:=LMc44.out;omega);intro p9 s5 ho hb hg hat;rw [← m7.out] at ho;refine ap3 (Kd.R_after (ok:=(fun _=>True)) (Kd.R_q a6.out) hg hat) (hb) (ho) ?_;clear a6 HB g1;intro a6 HB d4;clear ho hb hg hat;obtain ⟨s6,s7,q0⟩:=Kd.R_slice a6.out;subst q0;obtain ⟨s8,s9,q1⟩:=Kd.R_slice d4.out;subst q1)|(go_at_call 6;(with_reducible refine (trustquorumlaw22_kept.calls b6 _ _ e7 _ _ j3 true _ ?side1 ?side2 ?side3 ?side4 m9.out).mono ?_);(case side1=>exact Kd.C_q ((Kd.R_reads' a6.out).2.2));(case side2=>exact (Kd.R_reads' a6.out).2.1);(case side3=>exact Kd.C_q ((Kd.R_reads' d4.out).2.2));(case side4=>exact (Kd.R_reads' d4.out).2.1);rintro e w' ⟨rfl,⟨nd,rfl⟩⟩)|(go_at_call 4;(with_reducible refine (trustquorumlaw22_awake.calls b6  b4 _ p8.out).mono ?_);rintro e t0 ⟨rfl,hb⟩;refine ap3 (Kd.R_below (Kd.R_q a6.out) hb) (Kd.R_below (Kd.R_q d4.out) hb) (below_step (belowP HB) hb) ?_;clear a6 d4 HB;intro a6 d4 HB))
               go_ret
               exact ⟨rE,by repeat (first|(with_reducible first|exact HB.out|apply below_alloc|apply pw_below_drewN|apply below_drew1)|exact HB.out)⟩
              ·replace h3:=Bool.eq_false_iff.mpr h3
               subst h3
               rw [if_neg (show ¬ (false=true) by decide)] at H
               obtain rfl:=Option.some.inj H
               go_wp2_with (first|((with_reducible refine gate_dst (N:=89) rfl ?_);(try (refine gate_guard (by rfl) ?_;dsimp only));refine Kd.R_lit Kd.string _ 9 ?hg (N:=89) ?hd (xs:=([a2]:List ByteArray)) (inner:=[.string a2]) (ok:=fun _=>True) (okp:=fun _=>True) ?hr ?hp (fun _ hk=>hk) trivial (Below.refl _ _) (Nat.le_refl _) (by simp) ?_;(case hd=>rfl);(case hg=>rfl);(case hr=>first|(go_simp;done)|(go_simp;rfl));(case hp=>exact (Reps.one (show Kd.M Kd.string _ _ _ a2 [.string a2] from rfl) (Reps.none _ _)));intro f8 t1 g2 hb hg_ hnew_;clear hg_ hnew_;(first|rw [← g9.out] at g2|(simp only [Int.reduceToNat] at g2;rw [← g9.out] at g2));refine ap2 (Kd.R_lower g2 (below_size (belowP HB))) (below_step (belowP HB) hb) ?_;clear HB;intro a6 HB;clear hb g2)|((with_reducible refine gate_dst (N:=90) rfl ?_);(try (refine gate_guard (by rfl) ?_;dsimp only));refine Kd.R_lit Kd.string _ 9 ?hg (N:=90) ?hd (xs:=([]:List ByteArray)) (inner:=[]) (ok:=fun _=>True) (okp:=fun _=>True) ?hr ?hp (fun _ hk=>hk) trivial (Below.refl _ _) (Nat.le_refl _) (by simp) ?_;(case hd=>rfl);(case hg=>rfl);(case hr=>first|(go_simp;done)|(go_simp;rfl));(case hp=>exact (Reps.none _ _));intro j5 t2 e9 hb hg_ hnew_;clear hg_ hnew_;(first|rw [← h0.out] at e9|(simp only [Int.reduceToNat] at e9;rw [← h0.out] at e9));refine ap3 (Kd.R_elder' (Kd.R_q a6.out) (Kd.R_base e9) hb) (Kd.R_lower (Kd.R_new' e9 (Kd.R_lt (Kd.R_q a6.out))) (below_size (belowP HB))) (below_step (belowP HB) hb) ?_;clear a6 HB;intro a6 g0 HB;clear hb e9)|((with_reducible refine gate_builtin (b:=.append) (xs:=#[.tmp 90,.tmp 91]) rfl ?_);(try (refine gate_guard (by rfl) ?_;dsimp only));at_builtin;refine Kd.R_append_rows Kd.string (w0:=w) w.heap.size rfl (.tmp 90) (.tmp 91) 22 9 (.string ⟨#[]⟩) 16 rfl Try.underlying22 info9 rfl (by decide) (by omega) j5 b7 l0 _ _ _ (fun k_=>some k_≠(f8:Value).ownBlock) (fun _=>False) rfl rfl ?aO ?aR (fun _ _ h=>h) (fun _ h=>h.elim) ?aF ?aB ?aS ?aL ?_;(case aR=>exact Kd.C_q (Kd.C_below f0.out HB.out));(case aB=>exact (belowP HB));(case aF=>exact (fun k_ hk=>Kd.fresh' (Kd.R_lt (Kd.R_q a6.out)) k_ hk));(case aO=>exact (by refine Kd.R_q ?_;exact Kd.R_mono g0.out (fun _ hk=>hk.2)));(case aS=>exact (below_size (belowP HB)));(case aL=>have:=LMc43.out;omega);intro j6 t3 ho hb hg hat;rw [← m6.out] at ho;refine ap3 (Kd.R_after (ok:=(fun _=>True)) (Kd.R_q a6.out) hg hat) (hb) (ho) ?_;clear a6 HB g0;intro a6 HB g1;clear ho hb hg hat)|((with_reducible refine gate_builtin (b:=.append) (xs:=#[.tmp 92,.tmp 93]) rfl ?_);(try (refine gate_guard (by rfl) ?_;dsimp only));at_builtin;refine Kd.R_append_rows Kd.string (w0:=w) w.heap.size rfl (.tmp 92) (.tmp 93) 22 9 (.string ⟨#[]⟩) 16 rfl Try.underlying22 info9 rfl (by decide) (by omega) j6 b3 l1 _ _ _ (fun k_=>some k_≠(f8:Value).ownBlock) (fun _=>False) rfl rfl ?aO ?aR (fun _ _ h=>h) (fun _ h=>h.elim) ?aF ?aB ?aS ?aL ?_;(case aR=>exact Kd.C_q (Kd.C_below f1.out HB.out));(case aB=>exact (belowP HB));(case aF=>exact (fun k_ hk=>Kd.fresh' (Kd.R_lt (Kd.R_q a6.out)) k_ hk));(case aO=>exact (Kd.R_q g1.out));(case aS=>exact (below_size (belowP HB)));(case aL=>have:=LMc44.out;omega);intro p9 t4 ho hb hg hat;rw [← m7.out] at ho;refine ap3 (Kd.R_after (ok:=(fun _=>True)) (Kd.R_q a6.out) hg hat) (hb) (ho) ?_;clear a6 HB g1;intro a6 HB d4;clear ho hb hg hat;obtain ⟨t5,t6,q2⟩:=Kd.R_slice a6.out;subst q2;obtain ⟨t7,t8,q3⟩:=Kd.R_slice d4.out;subst q3)|(go_at_call 6;(with_reducible refine (trustquorumlaw22_kept.calls b6 _ _ e7 _ _ j3 false _ ?side1 ?side2 ?side3 ?side4 m9.out).mono ?_);(case side1=>exact Kd.C_q ((Kd.R_reads' a6.out).2.2));(case side2=>exact (Kd.R_reads' a6.out).2.1);(case side3=>exact Kd.C_q ((Kd.R_reads' d4.out).2.2));(case side4=>exact (Kd.R_reads' d4.out).2.1);rintro e w' ⟨rfl,⟨nd,rfl⟩⟩))
               go_ret
               exact ⟨rE,by repeat (first|(with_reducible first|exact HB.out|apply below_alloc|apply pw_below_drewN|apply below_drew1)|exact HB.out)⟩
             ·rw [if_neg h2] at H
              exact absurd H (by simp)
            ·rw [if_neg h1] at H
             exact absurd H (by simp)
           ·replace g8:=Bool.eq_false_iff.mpr g8
            subst g8
            rw [if_neg (show ¬ (false=true) by decide)] at H
            replace H:=Option.bind_eq_some_iff.mp H
            obtain ⟨g4,n1,H⟩:=H
            replace H:(some g4)=some r:=H
            have q4:=Aside0.mk n1
            clear n1
            obtain rfl:=Option.some.inj H
            go_wp2_with (first|(go_at_call 4;(with_reducible refine (trustquorumlaw22_awake.calls b6  g4 _ q4.out).mono ?_);rintro e t9 ⟨rfl,hb⟩;refine ap1 (below_step (belowP HB) hb) ?_;clear HB;intro HB))
            go_ret
            exact ⟨rE,by repeat (first|(with_reducible first|exact HB.out|apply below_alloc|apply pw_below_drewN|apply below_drew1)|exact HB.out)⟩
       ·rw [if_neg f4] at H
        exact absurd H (by simp)
      ·rw [if_neg f3] at H
       exact absurd H (by simp)
     ·rw [if_neg c9] at H
      exact absurd H (by simp)
    ·rw [if_neg c8] at H
     exact absurd H (by simp)
end Go.Proofs.Ytnkpakakgfkpbaa.P
end
section
namespace Go.Proofs.Ytnkpakakgfkpbaa.P
open Go.RowKit Go.Proofs.YtnkpakakgfkpbaaW.PrintWords Go.Proofs.YtnkpakakgfkpbaaW.PrintLast Go.Proofs.YtnkpakakgfkpbaaW.PrintMore
theorem law_composite (K:Nat) (hK:trustquorumlaw22_awake.f K=some true) (l0 l1:List ByteArray):∃ k,tNC.f k l0 l1=some true:=by
  have hA:∀ k,K≤k→trustquorumlaw22_awake.f k=some true:=rounds_up (fun k=>trustquorumlaw22_awake.mono k) hK
  refine ⟨K + 202,?_⟩
  unfold tNC.f
  by_cases h0:(l0.length:Int) > 40
  · rw [if_pos h0]
    simp only [tNC.j0]
    rw [if_pos trivial,hA _ (by omega)];rfl
  · rw [if_neg h0]
    by_cases h1:(l1.length:Int) > 40
    · rw [decide_eq_true h1]
      simp only [tNC.j0]
      rw [if_pos trivial,hA _ (by omega)];rfl
    · rw [decide_eq_false h1]
      have hv0:=comp_val l0
      have hv1:=comp_val l1
      have e1:=composite_ev (l0 ++ l1) (by simp <;> omega) (K + 201) (by simp <;> omega)
      have e2:=composite_ev (l1 ++ l0) (by simp <;> omega) (K + 201) (by simp <;> omega)
      have e3:=composite_ev l0 (by omega) (K + 201) (by omega)
      have e4:=composite_ev l1 (by omega) (K + 201) (by omega)
      have e5:=composite_ev [comp l0,comp l1] (by simp) (K + 201) (by simp <;> omega)
      rw [comp_pair _ _ hv0 hv1] at e5
      rw [comp_append] at e1
      rw [comp_append,vmax_comm] at e2
      simp only [bne_nil] at e1 e2 e3 e4 e5
      have hj1:tNC.j1 (K + 201) l0 l1 (vmax (comp l0) (comp l1)) (decide (vmax (comp l0) (comp l1)≠vnil)) false=some true:=by
        simp only [tNC.j1]
        rw [if_neg (by simp)]
        by_cases hM:vmax (comp l0) (comp l1)=vnil
        · rw [if_neg (by simp [hM]),hA _ (by omega)];rfl
        · rw [if_pos (by simp [hM])]
          try simp only [Option.bind_some]
          rw [if_pos (by simp <;> omega)]
          try simp only [Option.bind_some]
          rw [if_pos (by simp <;> omega),List.nil_append,kept_one _ _ (by simp <;> omega) _ (by simp <;> omega)]
          have hm:vmax (comp l0) (comp l1) ∈ l0 ++ l1:=by
            rw [← comp_append] at hM ⊢
            rcases comp_mem (l0 ++ l1) with h|h
            · exact absurd h hM
            · exact h.1
          try simp only [Option.bind_some]
          rw [if_pos (by simpa using hm),hA _ (by omega)];rfl
      have hne:=vmax_ne_nil (comp l0) (comp l1)
      simp only [tNC.j0]
      rw [if_neg (by simp)]
      try simp only [Option.bind_some]
      rw [if_pos (by simp <;> omega)]
      try simp only [Option.bind_some]
      rw [if_pos (by simp <;> omega),List.nil_append,e1]
      try simp only [Option.bind_some]
      rw [if_pos (by simp <;> omega)]
      try simp only [Option.bind_some]
      rw [if_pos (by simp <;> omega),List.nil_append,e2,e3,e4]
      try simp only [Option.bind_some]
      rw [e5]
      try simp only [Option.bind_some]
      rw [if_pos trivial,if_neg (by simp),if_pos trivial,if_neg (by simp)]
      by_cases hc:decide (comp l0≠vnil)=true
      · rw [if_pos hc]
        rw [hc,Bool.true_or] at hne
        rw [hne]
        rw [hne] at hj1
        exact hj1
      · rw [if_neg hc]
        rw [Bool.not_eq_true] at hc
        rw [hc,Bool.false_or] at hne
        rw [← hne]
        simpa using hj1
theorem awake22:∃ K,trustquorumlaw22_awake.f K=some true:=⟨60,by decide +kernel⟩
end Go.Proofs.Ytnkpakakgfkpbaa.P
end
section
namespace Go.Proofs.Ytnkpakakgfkpbaa.nominationComposite
open Go.ChangeShapes Go.WideShapes Go.ChangeAt Go.RowKit
open Go.ChangeMaps (open_string shut_string)
theorem own:ownKnob Try.prog.godebug=none:=by kernel_rfl
theorem laidOut:laidOutB Try.prog=true:=by kernel_rfl
theorem strs_C {H:Type} {enc:TypeId × Value→H} {P:Program} {W:World} {base:Nat} {spare:Nat→Bool} {held:Bool} {t e:TypeId} {a:Option Addr} {len cap:Nat} {d:DataW H} {ps:List MemPlace}
    (hu:P.underlying t=some (.slice e)) (he:P.underlying e=some .string) (hc:P.cellsOf e=1) (h:DataW.Trod enc P W base spare held t (.slice a len cap) d ps) :
    ∃ l:List ByteArray,len=l.length∧YtnkpakakgfkpbaaW.PrintWords.Kd.C YtnkpakakgfkpbaaW.PrintWords.Kd.string W a l.length l∧l.length≤cap:=by
  obtain ⟨fuel,hf⟩:=h
  rcases open_strings hu he hc hf with ⟨hcs,_⟩|⟨x,l,c,ss,hcs,_,hl,hm,hz,_,hcell,_⟩
  · simp [Value.cells] at hcs
    obtain ⟨rfl,rfl,rfl⟩:=hcs
    exact ⟨[],rfl,⟨rfl,by simp,fun h=>absurd h (by simp)⟩,by simp⟩
  · simp [Value.cells] at hcs
    obtain ⟨rfl,rfl,rfl⟩:=hcs
    have hlen:(ss.take len).length=len:=by
      rw [List.length_take,hz]
      split <;> omega
    refine ⟨ss.take len,hlen.symm,⟨rfl,by rw [hlen];simp only [maxLen] at hm;omega,fun _=>⟨_,rfl,fun j p hj=>?_⟩⟩,by omega⟩
    have hjl:j < len:=by have:=(List.getElem?_eq_some_iff.1 hj).1;omega
    rw [List.getElem?_take,if_pos hjl] at hj
    refine ⟨[.string p],rfl,rfl,fun i u hu=>?_⟩
    rcases i with _|i
    · obtain rfl:Value.string p=u:=by simpa using hu
      have h1:=hcell j (List.getElem?_eq_some_iff.1 hj).1
      rw [List.getD_eq_getElem?_getD,hj] at h1
      simpa [YtnkpakakgfkpbaaW.PrintWords.Kd.string,YtnkpakakgfkpbaaW.PrintWords.Kd.scalar] using h1
    · simp at hu
set_option maxRecDepth 100000 in
theorem lifted (os:Os) (started:os.Started) (H:Type) (enc:TypeId × Value→H) :
    ReturnsInHanded {} Try.checked os 3 .any (Rows.nominationCompositeSpec.pre6 enc Try.prog Try.f3 Rows.nominationCompositeRow.domain false) (Rows.nominationCompositeSpec.post enc Try.prog Try.f3 false true false false):=by
  refine returnsInHanded_of_change_sized (C:=Try.checked) own started (by kernel_rfl) Try.func3
    (ChangeSpec.witness6 (enc:=enc) (C:=Try.checked) false ⟨#[],#[.slice none 0 0,.slice none 0 0],[]⟩ 8 (by kernel_rfl) (by kernel_rfl) (by kernel_rfl) (by kernel_rfl)) ?_
  intro W base args ds gs before hval0 hW hcnd hsz0 _
  have hval:∀ (j:Nat) t v,Try.f3.params[j]? = some t→args[j]? = some v→Value.okWide Try.prog W .any base t v:=hval0
  have hW':=hW
  obtain ⟨p,q,hA0,hV,rfl,hfz,hnd⟩:=hW
  have hA:DataW.TrodAll enc Try.prog W 0 (fun _=>true) true Try.f3.params.toList args.toList ds p:=hA0
  rw [Try.params3] at hA hval
  obtain ⟨v0,vs0,d0,ds0,p0,q0,hargs,rfl,rfl,h0,r0⟩:=trodAll_cons hA
  obtain ⟨v1,vs1,d1,ds1,p1,q1,rfl,rfl,rfl,h1,r1⟩:=trodAll_cons r0
  obtain ⟨rfl,rfl,rfl⟩:=trodAll_nil r1
  obtain rfl:args=#[v0,v1]:=by cases args;simp_all
  obtain ⟨rfl,rfl⟩:=trodVars_none hV
  obtain ⟨a0,len0,cap0,rfl⟩:=okWide_slice Try.underlying22 (hval 0 22 v0 rfl rfl)
  obtain ⟨a1,len1,cap1,rfl⟩:=okWide_slice Try.underlying22 (hval 1 22 v1 rfl rfl)
  have k0:=h0
  have lt0:∀ x ∈ p0,x.block < W.heap.size:=by obtain ⟨m,hm⟩:=k0;exact DataW.trod_lt m _ _ _ hm
  have k1:=h1
  have lt1:∀ x ∈ p1,x.block < W.heap.size:=by obtain ⟨m,hm⟩:=k1;exact DataW.trod_lt m _ _ _ hm
  obtain ⟨l0,rfl,hC0,hc0⟩:=strs_C Try.underlying22 Try.underlying9 (by kernel_rfl) h0
  obtain ⟨l1,rfl,hC1,hc1⟩:=strs_C Try.underlying22 Try.underlying9 (by kernel_rfl) h1
  clear hA0 hval0 hsz0
  obtain ⟨K,hK⟩:=P.awake22
  obtain ⟨k,h⟩:=P.law_composite K hK l0 l1
  refine (P.tNC.calls k a0 cap0 l0 a1 cap1 l1 true W hC0 hc0 hC1 hc1 h).mono fun e W' ⟨he,bel⟩=>?_
  subst he
  exact ⟨_,rfl,_,_,_,[],_,[],hW',trodAll_mk1 (shut_bool Try.underlying4 _),(trodAll_cons_mk (Below.trod laidOut (by kernel_rfl) (of_decide_eq_true (by kernel_rfl)) k0 bel lt0) (trodAll_cons_mk (Below.trod laidOut (by kernel_rfl) (of_decide_eq_true (by kernel_rfl)) k1 bel lt1) trodAll_mk0)),rfl,bel.frame _,fun h=>by cases h⟩
theorem over:Rows.nominationCompositeRow.holds Try.pinned (OpenSpec.ofChange Rows.nominationCompositeSpec):=
  OpenClaim.holds_of_wide 3 Try.f3 rfl rfl rfl rfl rfl rfl rfl ⟨rfl,rfl,rfl,rfl,rfl⟩ rfl rfl rfl rfl rfl (by kernel_rfl) Try.func3 (by kernel_rfl)
    (of_decide_eq_true (by kernel_rfl)) (by unfold Func.isWrapper;first|(rw [if_pos (by decide +kernel)];kernel_rfl)|(rw [if_neg (by decide +kernel)];exact ⟨rfl,rfl⟩))
    (fun os started H enc _=>lifted os started H enc)
theorem proved:Rows.NominationCompositeSaid:=over
end Go.Proofs.Ytnkpakakgfkpbaa.nominationComposite
namespace Go.Proofs.Ytnkpakakgfkpbaa
theorem nominationComposite_holds:Rows.NominationCompositeSaid:=nominationComposite.proved
end Go.Proofs.Ytnkpakakgfkpbaa

end
