import Derived.Test.YtnkpakakgfkpbaaM2
set_option linter.unusedVariables false
set_option linter.unusedSimpArgs false
section
namespace Go.Proofs.Ytnkpakakgfkpbaa.P
open Go.RowKit Go.Proofs.YtnkpakakgfkpbaaW.PrintWords Go.Proofs.YtnkpakakgfkpbaaW.PrintLast Go.Proofs.YtnkpakakgfkpbaaW.PrintMore
attribute [local go_sem] max2_int max_two binOp_string_gtr_pp
def threshold_node.f (a0:Int):Option (Bool):=if a0≥0 then (some (decide (a0 < 10))) else (some false)
set_option maxHeartbeats 8000000 in
set_option maxRecDepth 100000 in
theorem threshold_node.calls (a0:Int) (r:Bool) (w:World) (h:threshold_node.f a0=some r) :
  Calls Try.prog 35 #[.int .i64 a0] w fun e w'=>e = .returned (.bool r)∧Drawn0 w w':=by
 have H:(if a0≥0 then (some (decide (a0 < 10))) else (some false))=some r:=h
 clear h
 by_cases c2:a0≥0
 ·rw [if_pos c2] at H
  have a1:decide (0≤a0)=true:=decide_eq_true c2
  clear c2
  obtain rfl:=Option.some.inj H
  go_enter Try.func35,Try.ntmps35
  go_wp2
  go_ret
  exact ⟨by first|rfl|(simp;done)|(simp [*];done),by repeat (first|exact Drawn0.refl _|apply Drawn0.step)⟩
 ·rw [if_neg c2] at H
  have a1:decide (0≤a0)=false:=decide_eq_false c2
  clear c2
  obtain rfl:=Option.some.inj H
  go_enter Try.func35,Try.ntmps35
  go_wp2
  go_ret
  exact ⟨by first|rfl|(simp;done)|(simp [*];done),by repeat (first|exact Drawn0.refl _|apply Drawn0.step)⟩
def threshold_level_1.f (a0:Int):Option (Bool):=(threshold_node.f a0).bind fun a1=>(some (!a1))
set_option maxHeartbeats 8000000 in
set_option maxRecDepth 100000 in
theorem threshold_level_1.calls (a0:Int) (r:Bool) (w:World) (h:threshold_level_1.f a0=some r) :
  Calls Try.prog 34 #[.int .i64 a0] w fun e w'=>e = .returned (.bool r)∧Drawn0 w w':=by
 have H:((threshold_node.f a0).bind fun a1=>(some (!a1)))=some r:=h
 clear h
 replace H:=Option.bind_eq_some_iff.mp H
 obtain ⟨a1,a2,H⟩:=H
 replace H:(some (!a1))=some r:=H
 have A2:=Aside0.mk a2
 clear a2
 obtain rfl:=Option.some.inj H
 go_enter Try.func34,Try.ntmps34
 go_wp2_with (first|((with_reducible refine gate_callee (f:=35) rfl ?_);refine goesL_ (some 4) rfl rfl Try.func35 (by kernel_rfl) rfl #[.int .i64 a0] rfl tz0 ?_;(with_reducible refine (threshold_node.calls a0 a1 _ A2.out).mono ?_);rintro e w' ⟨rfl,⟨nd,rfl⟩⟩;refine ⟨_,rfl,?_⟩))
 go_ret
 exact ⟨by first|rfl|(simp;done)|(simp [*];done),by repeat (first|exact Drawn0.refl _|apply Drawn0.step)⟩
def slices_IndexFunc_int_int__threshold_level_1.l0:Nat→List Int→Int→Int→Option (Int)
 | 0,_,_,_=>none
 | k + 1,x0,x7,x8=>if x8 < x7 then (if 0≤x8 then (if x8 < (x0.length:Int) then ((threshold_level_1.f (rd x0 x8)).bind fun a4=>(if a4=true then (some x8) else (slices_IndexFunc_int_int__threshold_level_1.l0 k x0 x7 (wrap64 (x8 + 1))))) else (none)) else (none)) else (some (-1))
def slices_IndexFunc_int_int__threshold_level_1.f (k:Nat) (l0:List Int)  : Option (Int):=slices_IndexFunc_int_int__threshold_level_1.l0 k l0 (l0.length:Int) 0
theorem slices_IndexFunc_int_int__threshold_level_1.mono_l:∀ k,(∀ y0 y1 y2,LeO (slices_IndexFunc_int_int__threshold_level_1.l0 k y0 y1 y2) (slices_IndexFunc_int_int__threshold_level_1.l0 (k + 1) y0 y1 y2))
 | 0=>fun _ _ _ r h=>by simp [slices_IndexFunc_int_int__threshold_level_1.l0] at h
 | k + 1=>by
  have a5:=slices_IndexFunc_int_int__threshold_level_1.mono_l k
  ·intro y0 y1 y2
   unfold slices_IndexFunc_int_int__threshold_level_1.l0
   repeat' first
   | (with_reducible exact a5 _ _ _)
   | (with_reducible exact LeO.refl _)
   | (with_reducible exact LeO.none _)
   | (with_reducible refine LeO.ite ?_ ?_)
   | (with_reducible refine LeO.bind ?_ (fun _=>?_))
theorem slices_IndexFunc_int_int__threshold_level_1.mono:∀ a0 k,LeO (slices_IndexFunc_int_int__threshold_level_1.f k a0) (slices_IndexFunc_int_int__threshold_level_1.f (k + 1) a0):=by
 intro a0 k
 have a5:=slices_IndexFunc_int_int__threshold_level_1.mono_l k
 unfold slices_IndexFunc_int_int__threshold_level_1.f
 repeat' first
   | (with_reducible exact a5 _ _ _)
   | (with_reducible exact LeO.refl _)
   | (with_reducible exact LeO.none _)
   | (with_reducible refine LeO.ite ?_ ?_)
   | (with_reducible refine LeO.bind ?_ (fun _=>?_))
set_option maxHeartbeats 8000000 in
set_option maxRecDepth 100000 in
theorem slices_IndexFunc_int_int__threshold_level_1.calls (k:Nat) (A0:Option Addr) (c0:Nat) (l0:List Int)  (r:Int) (w:World) (a7:Kd.C (Kd.int .i64) w A0 l0.length l0) (a8:l0.length≤c0) (h:slices_IndexFunc_int_int__threshold_level_1.f k l0=some r) :
  Calls Try.prog 48 #[.slice A0 l0.length c0,.func (.func 34) #[] #[]] w fun e w'=>e = .returned (.int .i64 r)∧Drawn0 w w':=by
 have b5:∀ args w,(callFunc 34 args).run Try.prog w = .ok (.enter 34 args) w:=enters_of Try.func34 (by kernel_rfl) rfl
 have a9:=Aside0.mk a7
 have b6:=Aside0.mk a8
 clear a7 a8
 have H:(slices_IndexFunc_int_int__threshold_level_1.l0 k l0 (l0.length:Int) 0)=some r:=h
 clear h
 have H':=Aside0.mk H
 clear H
 go_enter Try.func48,Try.ntmps48
 go_wp2
 go_loopg [8] k (fun kq v8 w'=>∃ (a1:Int),v8 = .int .i64 a1∧Aside0 (slices_IndexFunc_int_int__threshold_level_1.l0 kq l0 (l0.length:Int) a1=some r)∧Aside0 (kq≤k)∧Drawn0 w w')
 case atStart=>exact ⟨(0),tz3,H',⟨Nat.le_refl _⟩,by repeat (first|exact Drawn0.refl _|apply Drawn0.step)⟩
 case round=>
  clear H'
  obtain ⟨a1,rfl,HA,b0,⟨m1,rfl⟩⟩:=hrel
  cases gk with
  | zero=>exact absurd HA.out (by simp [slices_IndexFunc_int_int__threshold_level_1.l0])
  | succ k1=>
   have H:=HA.out
   clear HA
   simp only [slices_IndexFunc_int_int__threshold_level_1.l0] at H
   by_cases c3:a1 < (l0.length:Int)
   ·rw [if_pos c3] at H
    have b2:decide (a1 < (l0.length:Int))=true:=decide_eq_true c3
    clear c3
    by_cases c4:0≤a1
    ·rw [if_pos c4] at H
     have b7:decide (0≤a1)=true:=decide_eq_true c4
     clear c4
     by_cases c5:a1 < (l0.length:Int)
     ·rw [if_pos c5] at H
      have b8:decide (a1 < (l0.length:Int))=true:=decide_eq_true c5
      clear c5
      replace H:=Option.bind_eq_some_iff.mp H
      obtain ⟨a4,b1,H⟩:=H
      replace H:(if a4=true then (some a1) else (slices_IndexFunc_int_int__threshold_level_1.l0 k1 l0 (l0.length:Int) (wrap64 (a1 + 1))))=some r:=H
      have A6:=Aside0.mk b1
      clear b1
      by_cases c7:a4=true
      ·subst c7
       rw [if_pos rfl] at H
       obtain rfl:=Option.some.inj H
       have a2:0≤(a1:Int):=of_decide_eq_true tz2
       have a3:a1 < (l0.length:Int):=of_decide_eq_true tz2
       obtain ⟨b3,a6,b4⟩:=Kd.at_int a9.out a1 a2 a3
       cases a6
       replace a2:=eq_true a2
       replace a3:=eq_true a3
       go_wp2_with (first|(go_at_call 34;(with_reducible refine (threshold_level_1.calls (rd l0 a1) true _ A6.out).mono ?_);rintro e w' ⟨rfl,⟨nd,rfl⟩⟩))
       go_ret
       exact ⟨by first|rfl|(simp;done)|(simp [*];done),by repeat (first|exact Drawn0.refl _|apply Drawn0.step)⟩
      ·replace c7:=Bool.eq_false_iff.mpr c7
       subst c7
       rw [if_neg (show ¬ (false=true) by decide)] at H
       have H':=Aside0.mk H
       clear H
       have a2:0≤(a1:Int):=of_decide_eq_true tz2
       have a3:a1 < (l0.length:Int):=of_decide_eq_true tz2
       obtain ⟨b3,a6,b4⟩:=Kd.at_int a9.out a1 a2 a3
       cases a6
       replace a2:=eq_true a2
       replace a3:=eq_true a3
       go_wp2_with (first|(go_at_call 34;(with_reducible refine (threshold_level_1.calls (rd l0 a1) false _ A6.out).mono ?_);rintro e w' ⟨rfl,⟨nd,rfl⟩⟩))
       go_roundg k1
       case measure=>have:=b0.out;omega
       case rel=>exact ⟨(wrap64 (a1 + 1)),tz3,H',⟨by have:=b0.out;omega⟩,by repeat (first|exact Drawn0.refl _|apply Drawn0.step)⟩
     ·rw [if_neg c5] at H
      exact absurd H (by simp)
    ·rw [if_neg c4] at H
     exact absurd H (by simp)
   ·rw [if_neg c3] at H
    have b2:decide (a1 < (l0.length:Int))=false:=decide_eq_false c3
    clear c3
    obtain rfl:=Option.some.inj H
    go_wp2
    go_ret
    exact ⟨by first|rfl|(simp;done)|(simp [*];done),by repeat (first|exact Drawn0.refl _|apply Drawn0.step)⟩
def slices_ContainsFunc_int_int__threshold_level_1.f (k:Nat) (l0:List Int)  : Option (Bool):=(slices_IndexFunc_int_int__threshold_level_1.f k l0).bind fun a1=>(some (decide (a1≥0)))
theorem slices_ContainsFunc_int_int__threshold_level_1.mono:∀ a0 k,LeO (slices_ContainsFunc_int_int__threshold_level_1.f k a0) (slices_ContainsFunc_int_int__threshold_level_1.f (k + 1) a0):=by
 intro a0 k
 unfold slices_ContainsFunc_int_int__threshold_level_1.f
 repeat' first
   | (with_reducible apply slices_IndexFunc_int_int__threshold_level_1.mono)
   | (with_reducible exact LeO.refl _)
   | (with_reducible exact LeO.none _)
   | (with_reducible refine LeO.ite ?_ ?_)
   | (with_reducible refine LeO.bind ?_ (fun _=>?_))
set_option maxHeartbeats 8000000 in
set_option maxRecDepth 100000 in
theorem slices_ContainsFunc_int_int__threshold_level_1.calls (k:Nat) (A0:Option Addr) (c0:Nat) (l0:List Int)  (r:Bool) (w:World) (a2:Kd.C (Kd.int .i64) w A0 l0.length l0) (a3:l0.length≤c0) (h:slices_ContainsFunc_int_int__threshold_level_1.f k l0=some r) :
  Calls Try.prog 33 #[.slice A0 l0.length c0,.func (.func 34) #[] #[]] w fun e w'=>e = .returned (.bool r)∧Drawn0 w w':=by
 have a7:∀ args w,(callFunc 34 args).run Try.prog w = .ok (.enter 34 args) w:=enters_of Try.func34 (by kernel_rfl) rfl
 have a5:=Aside0.mk a2
 have a6:=Aside0.mk a3
 clear a2 a3
 have H:((slices_IndexFunc_int_int__threshold_level_1.f k l0).bind fun a1=>(some (decide (a1≥0))))=some r:=h
 clear h
 replace H:=Option.bind_eq_some_iff.mp H
 obtain ⟨a1,a4,H⟩:=H
 replace H:(some (decide (a1≥0)))=some r:=H
 have A3:=Aside0.mk a4
 clear a4
 obtain rfl:=Option.some.inj H
 go_enter Try.func33,Try.ntmps33
 go_wp2_with (first|(go_at_call 48;(with_reducible refine (slices_IndexFunc_int_int__threshold_level_1.calls k _ _ l0  a1 _ ?side1 ?side2 A3.out).mono ?_);(case side1=>exact Kd.C_q a5.out);(case side2=>exact a6.out);rintro e w' ⟨rfl,⟨nd,rfl⟩⟩))
 go_ret
 exact ⟨by first|rfl|(simp;done)|(simp [*];done),by repeat (first|exact Drawn0.refl _|apply Drawn0.step)⟩
mutual
def threshold_level.j0:Nat→Bool→Int→List Int→List (S30)→Option (Int)
 | 0,_,_,_,_=>none
 | k + 1,k3,m4,h6,h7=>if k3=true then (some 4) else ((slices_ContainsFunc_int_int__threshold_level_1.f k h6).bind fun f4=>(if f4=true then (some 5) else ((nodeset_Of.f k h6).bind fun e0=>(if e0.2=0 then (threshold_level.l0 k h7 (h7.length:Int) 0) else (some e0.2)))))
def threshold_level.l0:Nat→List (S30)→Int→Int→Option (Int)
 | 0,_,_,_=>none
 | k + 1,e1,h8,c0=>if c0 < h8 then (if 0≤c0 then (if c0 < (e1.length:Int) then ((threshold_level.f k ((rd_T30 e1 c0).f0) ((rd_T30 e1 c0).f1) ((rd_T30 e1 c0).f2)).bind fun b2=>(if b2=0 then (threshold_level.l0 k e1 h8 (wrap64 (c0 + 1))) else (some b2))) else (none)) else (none)) else (some 0)
def threshold_level.f:Nat→Int→List Int→List (S30)→Option (Int)
 | 0,_,_,_=>none
 | k + 1,a7,a6,a3=>if a7 < 1 then (threshold_level.j0 k true a7 a6 a3) else (threshold_level.j0 k (decide (a7 > (wrap64 ((a6.length:Int) + (a3.length:Int))))) a7 a6 a3)
end
theorem threshold_level.mono_l:∀ k,(∀ y0 y1 y2,LeO (threshold_level.f k y0 y1 y2) (threshold_level.f (k + 1) y0 y1 y2))∧(∀ y0 y1 y2 y3,LeO (threshold_level.j0 k y0 y1 y2 y3) (threshold_level.j0 (k + 1) y0 y1 y2 y3))∧(∀ y0 y1 y2,LeO (threshold_level.l0 k y0 y1 y2) (threshold_level.l0 (k + 1) y0 y1 y2))
 | 0=>⟨fun _ _ _ r h=>by simp [threshold_level.f] at h,fun _ _ _ _ r h=>by simp [threshold_level.j0] at h,fun _ _ _ r h=>by simp [threshold_level.l0] at h⟩
 | k + 1=>by
  obtain ⟨e2,f5,f6⟩:=threshold_level.mono_l k
  refine ⟨?_,?_,?_⟩
  ·intro y0 y1 y2
   unfold threshold_level.f
   repeat' first
   | (with_reducible exact e2 _ _ _)
   | (with_reducible exact f5 _ _ _ _)
   | (with_reducible exact f6 _ _ _)
   | (with_reducible apply nodeset_Of.mono)
   | (with_reducible apply slices_ContainsFunc_int_int__threshold_level_1.mono)
   | (with_reducible exact LeO.refl _)
   | (with_reducible exact LeO.none _)
   | (with_reducible refine LeO.ite ?_ ?_)
   | (with_reducible refine LeO.bind ?_ (fun _=>?_))
  ·intro y0 y1 y2 y3
   unfold threshold_level.j0
   repeat' first
   | (with_reducible exact e2 _ _ _)
   | (with_reducible exact f5 _ _ _ _)
   | (with_reducible exact f6 _ _ _)
   | (with_reducible apply nodeset_Of.mono)
   | (with_reducible apply slices_ContainsFunc_int_int__threshold_level_1.mono)
   | (with_reducible exact LeO.refl _)
   | (with_reducible exact LeO.none _)
   | (with_reducible refine LeO.ite ?_ ?_)
   | (with_reducible refine LeO.bind ?_ (fun _=>?_))
  ·intro y0 y1 y2
   unfold threshold_level.l0
   repeat' first
   | (with_reducible exact e2 _ _ _)
   | (with_reducible exact f5 _ _ _ _)
   | (with_reducible exact f6 _ _ _)
   | (with_reducible apply nodeset_Of.mono)
   | (with_reducible apply slices_ContainsFunc_int_int__threshold_level_1.mono)
   | (with_reducible exact LeO.refl _)
   | (with_reducible exact LeO.none _)
   | (with_reducible refine LeO.ite ?_ ?_)
   | (with_reducible refine LeO.bind ?_ (fun _=>?_))
theorem threshold_level.mono:∀ a0 a1 a2 k,LeO (threshold_level.f k a0 a1 a2) (threshold_level.f (k + 1) a0 a1 a2):=by
 intro a0 a1 a2 k
 obtain ⟨e2,f5,f6⟩:=threshold_level.mono_l k
 exact e2 a0 a1 a2
set_option maxHeartbeats 8000000 in
set_option maxRecDepth 100000 in
theorem threshold_level.calls (k:Nat):∀ (a7:Int) (b0:Option Addr) (b1:Nat) (a6:List Int) (d8:Option Addr) (b8:Nat) (a3:List (S30)) (r:Int) (w:World) (g1:Kd.C (Kd.int .i64) w b0 a6.length a6) (g2:a6.length≤b1) (g3:Kd.C k30 w d8 a3.length a3) (g4:a3.length≤b8) (h:threshold_level.f k a7 a6 a3=some r),
  Calls Try.prog 19 #[.agg #[.int .i64 a7,.slice b0 a6.length b1,.slice d8 a3.length b8]] w fun e w'=>e = .returned (.int .i64 r)∧Below w.heap.size w w':=by
 induction k using Nat.strongRecOn with
 | _ k ih=>
 intro a7 b0 b1 a6 d8 b8 a3 r w g1 g2 g3 g4 h
 cases k with
 | zero=>exact absurd h (by simp [threshold_level.f])
 | succ k=>
 simp only [threshold_level.f] at h
 have hu30:=Try.underlying30
 have e3:=Aside0.mk g1
 have e4:=Aside0.mk g2
 clear g1 g2
 have h9:=Aside0.mk g3
 have m5:=Aside0.mk g4
 clear g3 g4
 have HB:=Aside0.mk (Below.refl w.heap.size w)
 have H:(if a7 < 1 then (threshold_level.j0 k true a7 a6 a3) else (threshold_level.j0 k (decide (a7 > (wrap64 ((a6.length:Int) + (a3.length:Int))))) a7 a6 a3))=some r:=h
 clear h
 have g5:=Aside0.mk H
 clear H
 go_enter Try.func19,Try.ntmps19
 go_upto_region 1 with (first|((with_reducible refine gate_dst (N:=1) rfl ?_);(try (refine gate_guard (by rfl) ?_;dsimp only));refine box_event ?hg (N:=1) ?hd (cs:=#[.int .i64 a7,.slice b0 a6.length b1,.slice d8 a3.length b8]) (t:=30) ?hr ?_;(case hd=>rfl);(case hg=>rfl);(case hr=>first|(go_simp;done)|(go_simp;rfl));intro b3 hg w3 hbox hb;refine ap4 (below_step (belowP HB) hb) (hbox) ((by rw [hg];exact (below_size (belowP HB)):w.heap.size≤b3)) ((by rw [hg];exact (below_size (belowP HB)):w.heap.size≤b3)) ?_;clear HB;intro HB a5 GW131 b5;clear hb hbox hg))
 (try simp only [Act.put,List.setIfInBounds_toArray,List.set_cons_zero,List.set_cons_succ])
 go_cut [22] (fun k4 wc=>∃ (kq:Nat) (f7:Bool),k4 = .bool f7∧Aside0 (threshold_level.j0 kq f7 a7 a6 a3=some r)∧Aside0 (kq≤k)∧Aside0 (wc.heap[b3]? = some (.cells #[.int .i64 a7,(.slice b0 a6.length b1),(.slice d8 a3.length b8)] 30 (0,0)))∧Aside0 (Below w.heap.size w wc))
 case first=>
  have H:=g5.out
  clear g5
  by_cases c4:a7 < 1
  ·rw [if_pos c4] at H
   have c1:decide (a7 < 1)=true:=decide_eq_true c4
   clear c4
   (first|rw [c1] | (simp only [i64_w,i32_w];rw [c1])|skip)
   have H':=Aside0.mk H
   clear H
   obtain ⟨i0,i1,i2⟩:=cells3 a5.out
   obtain ⟨i3,i4,i5⟩:=froz3 a5.out
   go_wp2
   go_meet
   case rel=>exact ⟨_,(true),tz3,H',⟨by first|omega|exact Nat.le_refl _⟩,⟨by refine blkQ ?_;exact a5.out⟩,⟨by repeat (first|(with_reducible first|exact HB.out|apply below_alloc|apply pw_below_drewN|apply below_drew1|refine below_set ?_ b5.out)|exact HB.out)⟩⟩
  ·rw [if_neg c4] at H
   have c1:decide (a7 < 1)=false:=decide_eq_false c4
   clear c4
   (first|rw [c1] | (simp only [i64_w,i32_w];rw [c1])|skip)
   have H':=Aside0.mk H
   clear H
   obtain ⟨i6,i7,i8⟩:=cells3 a5.out
   obtain ⟨i9,j2,j3⟩:=froz3 a5.out
   go_wp2
   go_meet
   case rel=>exact ⟨_,(decide (a7 > (wrap64 ((a6.length:Int) + (a3.length:Int))))),tz3,H',⟨by first|omega|exact Nat.le_refl _⟩,⟨by refine blkQ ?_;exact a5.out⟩,⟨by repeat (first|(with_reducible first|exact HB.out|apply below_alloc|apply pw_below_drewN|apply below_drew1|refine below_set ?_ b5.out)|exact HB.out)⟩⟩
 case rest=>
  clear g5
  try clear c4
  try clear c1
  try clear i0
  try clear i1
  try clear i2
  try clear i6
  try clear i7
  try clear i8
  try clear i3
  try clear i4
  try clear i5
  try clear i9
  try clear j2
  try clear j3
  try clear a5
  try clear HB
  obtain ⟨kq,f7,rfl,HA,HJ1,a5,HB⟩:=hcut
  cases kq with
  | zero=>exact absurd HA.out (by simp [threshold_level.j0])
  | succ b4=>
   have H:=HA.out
   clear HA
   simp only [threshold_level.j0] at H
   by_cases c7:f7=true
   ·subst c7
    rw [if_pos rfl] at H
    obtain rfl:=Option.some.inj H
    go_wp2
    go_ret
    exact ⟨rE,by repeat (first|(with_reducible first|exact HB.out|apply below_alloc|apply pw_below_drewN|apply below_drew1|refine below_set ?_ b5.out)|exact HB.out)⟩
   ·replace c7:=Bool.eq_false_iff.mpr c7
    subst c7
    rw [if_neg (show ¬ (false=true) by decide)] at H
    replace H:=Option.bind_eq_some_iff.mp H
    obtain ⟨f4,j4,H⟩:=H
    replace H:(if f4=true then (some 5) else ((nodeset_Of.f b4 a6).bind fun e0=>(if e0.2=0 then (threshold_level.l0 b4 a3 (a3.length:Int) 0) else (some e0.2))))=some r:=H
    have A8:=Aside0.mk j4
    clear j4
    by_cases c9:f4=true
    ·subst c9
     rw [if_pos rfl] at H
     obtain rfl:=Option.some.inj H
     obtain ⟨k5,k6,k7⟩:=cells3 a5.out
     obtain ⟨k8,k9,l3⟩:=froz3 a5.out
     go_wp2_with (first|((with_reducible refine gate_callee (f:=33) rfl ?_);refine goesL_ (some 25) rfl rfl Try.func33 (by kernel_rfl) rfl #[.slice b0 a6.length b1,.func (.func 34) #[] #[]] rfl tz0 ?_;(with_reducible refine (slices_ContainsFunc_int_int__threshold_level_1.calls b4 _ _ a6  true _ ?side1 ?side2 A8.out).mono ?_);(case side1=>exact Kd.C_q (Kd.C_below e3.out HB.out));(case side2=>exact e4.out);rintro e w' ⟨rfl,⟨nd,rfl⟩⟩;refine ⟨_,rfl,?_⟩))
     go_ret
     exact ⟨rE,by repeat (first|(with_reducible first|exact HB.out|apply below_alloc|apply pw_below_drewN|apply below_drew1|refine below_set ?_ b5.out)|exact HB.out)⟩
    ·replace c9:=Bool.eq_false_iff.mpr c9
     subst c9
     rw [if_neg (show ¬ (false=true) by decide)] at H
     replace H:=Option.bind_eq_some_iff.mp H
     obtain ⟨⟨j5,b6⟩,j6,H⟩:=H
     replace H:(if b6=0 then (threshold_level.l0 b4 a3 (a3.length:Int) 0) else (some b6))=some r:=H
     have j7:=Aside0.mk j6
     clear j6
     by_cases b9:b6=0
     ·rw [if_pos b9] at H
      have j8:(b6 == 0)=true:=beq_iff_eq.mpr b9
      have j9:(b6 != 0)=false:=bne_eq_false_iff_eq.mpr b9
      clear b9
      have H':=Aside0.mk H
      clear H
      obtain ⟨l4,l5,l6⟩:=cells3 a5.out
      obtain ⟨l7,l8,l9⟩:=froz3 a5.out
      go_wp2_with (first|((with_reducible refine gate_callee (f:=33) rfl ?_);refine goesL_ (some 25) rfl rfl Try.func33 (by kernel_rfl) rfl #[.slice b0 a6.length b1,.func (.func 34) #[] #[]] rfl tz0 ?_;(with_reducible refine (slices_ContainsFunc_int_int__threshold_level_1.calls b4 _ _ a6  false _ ?side1 ?side2 A8.out).mono ?_);(case side1=>exact Kd.C_q (Kd.C_below e3.out HB.out));(case side2=>exact e4.out);rintro e w' ⟨rfl,⟨nd,rfl⟩⟩;refine ⟨_,rfl,?_⟩)|((with_reducible refine gate_callee (f:=36) rfl ?_);refine goesL_ (some 29) rfl rfl Try.func36 (by kernel_rfl) rfl #[.slice b0 a6.length b1] rfl tz0 ?_;(with_reducible refine (nodeset_Of.calls b4 _ _ a6 j5 b6 _ ?side1 ?side2 j7.out).mono ?_);(case side1=>exact (Kd.C_below e3.out (belowP HB)));(case side2=>exact e4.out);rintro e w' ⟨rfl,⟨nd,rfl⟩⟩;refine ⟨_,rfl,?_⟩))
      go_loopg [38] b4 (fun kq m0 w'=>∃ (a4:Int),m0 = .int .i64 a4∧Aside0 (threshold_level.l0 kq a3 (a3.length:Int) a4=some r)∧Aside0 (kq≤b4)∧Aside0 (w'.heap[b3]? = some (.cells #[.int .i64 a7,(.slice b0 a6.length b1),(.slice d8 a3.length b8)] 30 (0,0)))∧Aside0 (Below w.heap.size w w'))
      case atStart=>exact ⟨(0),tz3,H',⟨Nat.le_refl _⟩,⟨by refine blkQ ?_;exact a5.out⟩,⟨by repeat (first|(with_reducible first|exact HB.out|apply below_alloc|apply pw_below_drewN|apply below_drew1|refine below_set ?_ b5.out)|exact HB.out)⟩⟩
      case round=>
       clear H'
       try clear c4
       try clear c1
       try clear c7
       try clear c9
       try clear b9
       try clear j8
       try clear j9
       try clear k5
       try clear k6
       try clear k7
       try clear l4
       try clear l5
       try clear l6
       try clear i0
       try clear i1
       try clear i2
       try clear i6
       try clear i7
       try clear i8
       try clear k8
       try clear k9
       try clear l3
       try clear l7
       try clear l8
       try clear l9
       try clear i3
       try clear i4
       try clear i5
       try clear i9
       try clear j2
       try clear j3
       try clear a5
       try clear HB
       obtain ⟨a4,rfl,HA,f8,a5,HB⟩:=hrel
       cases gk with
       | zero=>exact absurd HA.out (by simp [threshold_level.l0])
       | succ k2=>
        have H:=HA.out
        clear HA
        simp only [threshold_level.l0] at H
        by_cases d9:a4 < (a3.length:Int)
        ·rw [if_pos d9] at H
         have m1:decide (a4 < (a3.length:Int))=true:=decide_eq_true d9
         clear d9
         by_cases f9:0≤a4
         ·rw [if_pos f9] at H
          have m6:decide (0≤a4)=true:=decide_eq_true f9
          clear f9
          by_cases g0:a4 < (a3.length:Int)
          ·rw [if_pos g0] at H
           have m7:decide (a4 < (a3.length:Int))=true:=decide_eq_true g0
           clear g0
           replace H:=Option.bind_eq_some_iff.mp H
           obtain ⟨b2,k0,H⟩:=H
           replace H:(if b2=0 then (threshold_level.l0 k2 a3 (a3.length:Int) (wrap64 (a4 + 1))) else (some b2))=some r:=H
           have k1:=Aside0.mk k0
           clear k0
           by_cases d0:b2=0
           ·rw [if_pos d0] at H
            have m2:(b2 == 0)=true:=beq_iff_eq.mpr d0
            have m3:(b2 != 0)=false:=bne_eq_false_iff_eq.mpr d0
            clear d0
            have H':=Aside0.mk H
            clear H
            have d1:0≤(a4:Int):=of_decide_eq_true tz2
            have d2:a4 < (a3.length:Int):=of_decide_eq_true tz2
            obtain ⟨g6,d3,d4,e5,e6,g7,d5,d6,d7,e7,e8,e9,f3⟩:=at_T30 h9.out a4 d1 d2
            cases g7
            replace d5:=(HB.out.cell (World.block_lt_of_cell? w _ d5)).trans d5
            replace d6:=(HB.out.cell (World.block_lt_of_cell? w _ d6)).trans d6
            replace d7:=(HB.out.cell (World.block_lt_of_cell? w _ d7)).trans d7
            have g8:=Aside0.mk e8
            have g9:=Aside0.mk e7
            clear e8 e7
            have h0:=Aside0.mk f3
            have h1:=Aside0.mk e9
            clear f3 e9
            replace d1:=eq_true d1
            replace d2:=eq_true d2
            go_wp2_with (first|((with_reducible refine gate_dst (N:=6) rfl ?_);(try (refine gate_guard (by rfl) ?_;dsimp only));refine box_event ?hg (N:=6) ?hd (cs:=#[.int .i64 0,.slice none 0 0,.slice none 0 0]) (t:=30) ?hr ?_;(case hd=>rfl);(case hg=>rfl);(case hr=>first|(go_simp;done)|(go_simp;rfl));intro a9 hg h2 hbox hb;refine ap7 (blk_below (blkP a5) hb) (below_step (belowP HB) hb) (hbox) ((by rw [hg];exact (below_size (belowP HB)):w.heap.size≤a9)) ((by rw [hg];exact (below_size (belowP HB)):w.heap.size≤a9)) ((by rw [hg];exact Nat.ne_of_lt (blk_lt (blkP a5)):b3≠a9)) ((by rw [hg];exact Nat.ne_of_gt (blk_lt (blkP a5)):a9≠b3)) ?_;clear a5 HB;intro a5 HB a8 GW136 h3 b7 h4;clear hb hbox hg;have m8:=h4.out;have m9:=b7.out;have n0:h2.cell? ⟨a9,0,none⟩=some (.int .i64 0):=(blk_cell a8.out 0).trans rfl;have n1:h2.cell? ⟨a9,1,none⟩=some (.slice none 0 0):=(blk_cell a8.out 1).trans rfl;have n2:h2.cell? ⟨a9,2,none⟩=some (.slice none 0 0):=(blk_cell a8.out 2).trans rfl;have n3:=blk_frozen a8.out 0;have n4:=blk_frozen a8.out 1;have n5:=blk_frozen a8.out 2)|((with_reducible refine gate_callee (f:=19) rfl ?_);refine goesL_ (some 43) rfl rfl Try.func19 (by kernel_rfl) rfl #[.agg #[.int .i64 ((rd_T30 a3 a4).f0),.slice d3 ((rd_T30 a3 a4).f1).length d4,.slice e5 ((rd_T30 a3 a4).f2).length e6]] rfl tz0 ?_;(with_reducible refine (ih k2 (by have:=HJ1.out;have:=f8.out;omega) ((rd_T30 a3 a4).f0) _ _ ((rd_T30 a3 a4).f1) _ _ ((rd_T30 a3 a4).f2) b2 _ ?side1 ?side2 ?side3 ?side4 k1.out).mono ?_);(case side1=>exact Kd.C_below g8.out (belowP HB));(case side2=>exact g9.out);(case side3=>exact Kd.C_below h0.out (belowP HB));(case side4=>exact h1.out);rintro e n6 ⟨rfl,hb⟩;refine ⟨_,rfl,?_⟩;refine ap3 (blk_below (g:=b3) (o:=.cells #[.int .i64 a7,.slice b0 a6.length b1,.slice (some g6) a3.length b8] 30 (0,0)) (by refine blkQ ?_;refine blk_far ?_ b7.out _;refine blkQ ?_;refine blk_far ?_ b7.out _;refine blkQ ?_;refine blk_far ?_ b7.out _;refine blkQ ?_;exact a5.out) hb) (blk_below (g:=a9) (o:=.cells #[.int .i64 ((rd_T30 a3 a4).f0),.slice d3 ((rd_T30 a3 a4).f1).length d4,.slice e5 ((rd_T30 a3 a4).f2).length e6] 30 (0,0)) (by refine blkQ ?_;refine blk_put (cs:=#[.int .i64 ((rd_T30 a3 a4).f0),.slice d3 ((rd_T30 a3 a4).f1).length d4,.slice none 0 0]) ?_ 2 _ rfl;refine blkQ ?_;refine blk_put (cs:=#[.int .i64 ((rd_T30 a3 a4).f0),.slice none 0 0,.slice none 0 0]) ?_ 1 _ rfl;refine blkQ ?_;refine blk_put (cs:=#[.int .i64 0,.slice none 0 0,.slice none 0 0]) ?_ 0 _ rfl;refine blkQ ?_;exact a8.out) hb) (below_step (belowP HB) hb) ?_;clear a5 a8 HB;intro a5 a8 HB))
            go_roundg k2
            case measure=>have:=HJ1.out;have:=f8.out;omega
            case rel=>exact ⟨(wrap64 (a4 + 1)),tz3,H',⟨by have:=HJ1.out;have:=f8.out;omega⟩,⟨by refine blkQ ?_;exact a5.out⟩,⟨by repeat (first|(with_reducible first|exact HB.out|apply below_alloc|apply pw_below_drewN|apply below_drew1|refine below_set ?_ b5.out|refine below_set ?_ h3.out)|exact HB.out)⟩⟩
           ·rw [if_neg d0] at H
            have m2:(b2 == 0)=false:=beq_eq_false_iff_ne.mpr d0
            have m3:(b2 != 0)=true:=bne_iff_ne.mpr d0
            obtain rfl:=Option.some.inj H
            have d1:0≤(a4:Int):=of_decide_eq_true tz2
            have d2:a4 < (a3.length:Int):=of_decide_eq_true tz2
            obtain ⟨g6,d3,d4,e5,e6,g7,d5,d6,d7,e7,e8,e9,f3⟩:=at_T30 h9.out a4 d1 d2
            cases g7
            replace d5:=(HB.out.cell (World.block_lt_of_cell? w _ d5)).trans d5
            replace d6:=(HB.out.cell (World.block_lt_of_cell? w _ d6)).trans d6
            replace d7:=(HB.out.cell (World.block_lt_of_cell? w _ d7)).trans d7
            have g8:=Aside0.mk e8
            have g9:=Aside0.mk e7
            clear e8 e7
            have h0:=Aside0.mk f3
            have h1:=Aside0.mk e9
            clear f3 e9
            replace d1:=eq_true d1
            replace d2:=eq_true d2
            go_wp2_with (first|((with_reducible refine gate_dst (N:=6) rfl ?_);(try (refine gate_guard (by rfl) ?_;dsimp only));refine box_event ?hg (N:=6) ?hd (cs:=#[.int .i64 0,.slice none 0 0,.slice none 0 0]) (t:=30) ?hr ?_;(case hd=>rfl);(case hg=>rfl);(case hr=>first|(go_simp;done)|(go_simp;rfl));intro a9 hg h5 hbox hb;refine ap7 (blk_below (blkP a5) hb) (below_step (belowP HB) hb) (hbox) ((by rw [hg];exact (below_size (belowP HB)):w.heap.size≤a9)) ((by rw [hg];exact (below_size (belowP HB)):w.heap.size≤a9)) ((by rw [hg];exact Nat.ne_of_lt (blk_lt (blkP a5)):b3≠a9)) ((by rw [hg];exact Nat.ne_of_gt (blk_lt (blkP a5)):a9≠b3)) ?_;clear a5 HB;intro a5 HB a8 GW136 h3 b7 h4;clear hb hbox hg;have n7:=h4.out;have n8:=b7.out;have n9:h5.cell? ⟨a9,0,none⟩=some (.int .i64 0):=(blk_cell a8.out 0).trans rfl;have o0:h5.cell? ⟨a9,1,none⟩=some (.slice none 0 0):=(blk_cell a8.out 1).trans rfl;have o1:h5.cell? ⟨a9,2,none⟩=some (.slice none 0 0):=(blk_cell a8.out 2).trans rfl;have o2:=blk_frozen a8.out 0;have o3:=blk_frozen a8.out 1;have o4:=blk_frozen a8.out 2)|((with_reducible refine gate_callee (f:=19) rfl ?_);refine goesL_ (some 43) rfl rfl Try.func19 (by kernel_rfl) rfl #[.agg #[.int .i64 ((rd_T30 a3 a4).f0),.slice d3 ((rd_T30 a3 a4).f1).length d4,.slice e5 ((rd_T30 a3 a4).f2).length e6]] rfl tz0 ?_;(with_reducible refine (ih k2 (by have:=HJ1.out;have:=f8.out;omega) ((rd_T30 a3 a4).f0) _ _ ((rd_T30 a3 a4).f1) _ _ ((rd_T30 a3 a4).f2) b2 _ ?side1 ?side2 ?side3 ?side4 k1.out).mono ?_);(case side1=>exact Kd.C_below g8.out (belowP HB));(case side2=>exact g9.out);(case side3=>exact Kd.C_below h0.out (belowP HB));(case side4=>exact h1.out);rintro e o5 ⟨rfl,hb⟩;refine ⟨_,rfl,?_⟩;refine ap3 (blk_below (g:=b3) (o:=.cells #[.int .i64 a7,.slice b0 a6.length b1,.slice (some g6) a3.length b8] 30 (0,0)) (by refine blkQ ?_;refine blk_far ?_ b7.out _;refine blkQ ?_;refine blk_far ?_ b7.out _;refine blkQ ?_;refine blk_far ?_ b7.out _;refine blkQ ?_;exact a5.out) hb) (blk_below (g:=a9) (o:=.cells #[.int .i64 ((rd_T30 a3 a4).f0),.slice d3 ((rd_T30 a3 a4).f1).length d4,.slice e5 ((rd_T30 a3 a4).f2).length e6] 30 (0,0)) (by refine blkQ ?_;refine blk_put (cs:=#[.int .i64 ((rd_T30 a3 a4).f0),.slice d3 ((rd_T30 a3 a4).f1).length d4,.slice none 0 0]) ?_ 2 _ rfl;refine blkQ ?_;refine blk_put (cs:=#[.int .i64 ((rd_T30 a3 a4).f0),.slice none 0 0,.slice none 0 0]) ?_ 1 _ rfl;refine blkQ ?_;refine blk_put (cs:=#[.int .i64 0,.slice none 0 0,.slice none 0 0]) ?_ 0 _ rfl;refine blkQ ?_;exact a8.out) hb) (below_step (belowP HB) hb) ?_;clear a5 a8 HB;intro a5 a8 HB))
            go_ret
            exact ⟨rE,by repeat (first|(with_reducible first|exact HB.out|apply below_alloc|apply pw_below_drewN|apply below_drew1|refine below_set ?_ b5.out|refine below_set ?_ h3.out)|exact HB.out)⟩
          ·rw [if_neg g0] at H
           exact absurd H (by simp)
         ·rw [if_neg f9] at H
          exact absurd H (by simp)
        ·rw [if_neg d9] at H
         have m1:decide (a4 < (a3.length:Int))=false:=decide_eq_false d9
         clear d9
         obtain rfl:=Option.some.inj H
         go_wp2
         go_ret
         exact ⟨rE,by repeat (first|(with_reducible first|exact HB.out|apply below_alloc|apply pw_below_drewN|apply below_drew1|refine below_set ?_ b5.out)|exact HB.out)⟩
     ·rw [if_neg b9] at H
      have j8:(b6 == 0)=false:=beq_eq_false_iff_ne.mpr b9
      have j9:(b6 != 0)=true:=bne_iff_ne.mpr b9
      obtain rfl:=Option.some.inj H
      obtain ⟨o6,o7,o8⟩:=cells3 a5.out
      obtain ⟨o9,p0,p1⟩:=froz3 a5.out
      go_wp2_with (first|((with_reducible refine gate_callee (f:=33) rfl ?_);refine goesL_ (some 25) rfl rfl Try.func33 (by kernel_rfl) rfl #[.slice b0 a6.length b1,.func (.func 34) #[] #[]] rfl tz0 ?_;(with_reducible refine (slices_ContainsFunc_int_int__threshold_level_1.calls b4 _ _ a6  false _ ?side1 ?side2 A8.out).mono ?_);(case side1=>exact Kd.C_q (Kd.C_below e3.out HB.out));(case side2=>exact e4.out);rintro e w' ⟨rfl,⟨nd,rfl⟩⟩;refine ⟨_,rfl,?_⟩)|((with_reducible refine gate_callee (f:=36) rfl ?_);refine goesL_ (some 29) rfl rfl Try.func36 (by kernel_rfl) rfl #[.slice b0 a6.length b1] rfl tz0 ?_;(with_reducible refine (nodeset_Of.calls b4 _ _ a6 j5 b6 _ ?side1 ?side2 j7.out).mono ?_);(case side1=>exact (Kd.C_below e3.out (belowP HB)));(case side2=>exact e4.out);rintro e w' ⟨rfl,⟨nd,rfl⟩⟩;refine ⟨_,rfl,?_⟩))
      go_ret
      exact ⟨rE,by repeat (first|(with_reducible first|exact HB.out|apply below_alloc|apply pw_below_drewN|apply below_drew1|refine below_set ?_ b5.out)|exact HB.out)⟩
mutual
def threshold_Size.l0:Nat→Int→List (S30)→Int→Int→Option (Int)
 | 0,_,_,_,_=>none
 | k + 1,x3,b6,e3,b1=>if b1 < e3 then (if 0≤b1 then (if b1 < (b6.length:Int) then ((threshold_Size.f k ((rd_T30 b6 b1).f0) ((rd_T30 b6 b1).f1) ((rd_T30 b6 b1).f2)).bind fun b7=>(threshold_Size.l0 k (wrap64 (x3 + b7)) b6 e3 (wrap64 (b1 + 1)))) else (none)) else (none)) else (some x3)
def threshold_Size.f:Nat→Int→List Int→List (S30)→Option (Int)
 | 0,_,_,_=>none
 | k + 1,a9,a6,a3=>threshold_Size.l0 k (wrap64 ((a6.length:Int) + (a3.length:Int))) a3 (a3.length:Int) 0
end
theorem threshold_Size.mono_l:∀ k,(∀ y0 y1 y2,LeO (threshold_Size.f k y0 y1 y2) (threshold_Size.f (k + 1) y0 y1 y2))∧(∀ y0 y1 y2 y3,LeO (threshold_Size.l0 k y0 y1 y2 y3) (threshold_Size.l0 (k + 1) y0 y1 y2 y3))
 | 0=>⟨fun _ _ _ r h=>by simp [threshold_Size.f] at h,fun _ _ _ _ r h=>by simp [threshold_Size.l0] at h⟩
 | k + 1=>by
  obtain ⟨b9,c1⟩:=threshold_Size.mono_l k
  refine ⟨?_,?_⟩
  ·intro y0 y1 y2
   unfold threshold_Size.f
   repeat' first
   | (with_reducible exact b9 _ _ _)
   | (with_reducible exact c1 _ _ _ _)
   | (with_reducible exact LeO.refl _)
   | (with_reducible exact LeO.none _)
   | (with_reducible refine LeO.ite ?_ ?_)
   | (with_reducible refine LeO.bind ?_ (fun _=>?_))
  ·intro y0 y1 y2 y3
   unfold threshold_Size.l0
   repeat' first
   | (with_reducible exact b9 _ _ _)
   | (with_reducible exact c1 _ _ _ _)
   | (with_reducible exact LeO.refl _)
   | (with_reducible exact LeO.none _)
   | (with_reducible refine LeO.ite ?_ ?_)
   | (with_reducible refine LeO.bind ?_ (fun _=>?_))
theorem threshold_Size.mono:∀ a0 a1 a2 k,LeO (threshold_Size.f k a0 a1 a2) (threshold_Size.f (k + 1) a0 a1 a2):=by
 intro a0 a1 a2 k
 obtain ⟨b9,c1⟩:=threshold_Size.mono_l k
 exact b9 a0 a1 a2
set_option maxHeartbeats 8000000 in
set_option maxRecDepth 100000 in
theorem threshold_Size.calls (k:Nat):∀ (a9:Int) (b2:Option Addr) (b3:Nat) (a6:List Int) (b5:Option Addr) (b4:Nat) (a3:List (S30)) (r:Int) (w:World) (d0:Kd.C (Kd.int .i64) w b2 a6.length a6) (d1:a6.length≤b3) (d2:Kd.C k30 w b5 a3.length a3) (d3:a3.length≤b4) (h:threshold_Size.f k a9 a6 a3=some r),
  Calls Try.prog 18 #[.agg #[.int .i64 a9,.slice b2 a6.length b3,.slice b5 a3.length b4]] w fun e w'=>e = .returned (.int .i64 r)∧Below w.heap.size w w':=by
 induction k using Nat.strongRecOn with
 | _ k ih=>
 intro a9 b2 b3 a6 b5 b4 a3 r w d0 d1 d2 d3 h
 cases k with
 | zero=>exact absurd h (by simp [threshold_Size.f])
 | succ k=>
 simp only [threshold_Size.f] at h
 have hu30:=Try.underlying30
 have h1:=Aside0.mk d0
 have h2:=Aside0.mk d1
 clear d0 d1
 have f4:=Aside0.mk d2
 have h3:=Aside0.mk d3
 clear d2 d3
 have HB:=Aside0.mk (Below.refl w.heap.size w)
 have H:(threshold_Size.l0 k (wrap64 ((a6.length:Int) + (a3.length:Int))) a3 (a3.length:Int) 0)=some r:=h
 clear h
 have H':=Aside0.mk H
 clear H
 go_enter Try.func18,Try.ntmps18
 go_wp2_with (first|((with_reducible refine gate_dst (N:=1) rfl ?_);refine box_event ?hg (N:=1) ?hd (cs:=#[.int .i64 a9,.slice b2 a6.length b3,.slice b5 a3.length b4]) (t:=30) ?hr ?_;(case hd=>rfl);(case hg=>rfl);(case hr=>first|(go_simp;done)|(go_simp;rfl));intro a7 hg w2 hbox hb;refine ap4 (below_step (belowP HB) hb) (hbox) ((by rw [hg];exact (below_size (belowP HB)):w.heap.size≤a7)) ((by rw [hg];exact (below_size (belowP HB)):w.heap.size≤a7)) ?_;clear HB;intro HB a5 GW119 d4;clear hb hbox hg;have f5:w2.cell? ⟨a7,0,none⟩=some (.int .i64 a9):=(blk_cell a5.out 0).trans rfl;have f6:w2.cell? ⟨a7,1,none⟩=some (.slice b2 a6.length b3):=(blk_cell a5.out 1).trans rfl;have f7:w2.cell? ⟨a7,2,none⟩=some (.slice b5 a3.length b4):=(blk_cell a5.out 2).trans rfl;have f8:=blk_frozen a5.out 0;have f9:=blk_frozen a5.out 1;have g0:=blk_frozen a5.out 2))
 go_loopg [3,16] k (fun kq v3 g1 w'=>∃ (b8:Int) (a4:Int),v3 = .int .i64 b8∧g1 = .int .i64 a4∧Aside0 (threshold_Size.l0 kq b8 a3 (a3.length:Int) a4=some r)∧Aside0 (kq≤k)∧Aside0 (w'.heap[a7]? = some (.cells #[.int .i64 a9,(.slice b2 a6.length b3),(.slice b5 a3.length b4)] 30 (0,0)))∧Aside0 (Below w.heap.size w w'))
 case atStart=>exact ⟨(wrap64 ((a6.length:Int) + (a3.length:Int))),(0),tz3,tz3,H',⟨Nat.le_refl _⟩,⟨by refine blkQ ?_;exact a5.out⟩,⟨by repeat (first|(with_reducible first|exact HB.out|apply below_alloc|apply pw_below_drewN|apply below_drew1|refine below_set ?_ d4.out)|exact HB.out)⟩⟩
 case round=>
  clear H'
  try clear f5
  try clear f6
  try clear f7
  try clear f8
  try clear f9
  try clear g0
  try clear a5
  try clear HB
  obtain ⟨b8,a4,rfl,rfl,HA,d5,a5,HB⟩:=hrel
  cases gk with
  | zero=>exact absurd HA.out (by simp [threshold_Size.l0])
  | succ k1=>
   have H:=HA.out
   clear HA
   simp only [threshold_Size.l0] at H
   by_cases c4:a4 < (a3.length:Int)
   ·rw [if_pos c4] at H
    have g2:decide (a4 < (a3.length:Int))=true:=decide_eq_true c4
    clear c4
    by_cases c5:0≤a4
    ·rw [if_pos c5] at H
     have h4:decide (0≤a4)=true:=decide_eq_true c5
     clear c5
     by_cases c6:a4 < (a3.length:Int)
     ·rw [if_pos c6] at H
      have h5:decide (a4 < (a3.length:Int))=true:=decide_eq_true c6
      clear c6
      replace H:=Option.bind_eq_some_iff.mp H
      obtain ⟨b7,e4,H⟩:=H
      replace H:(threshold_Size.l0 k1 (wrap64 (b8 + b7)) a3 (a3.length:Int) (wrap64 (a4 + 1)))=some r:=H
      have A7:=Aside0.mk e4
      clear e4
      have H':=Aside0.mk H
      clear H
      have d6:0≤(a4:Int):=of_decide_eq_true tz2
      have d7:a4 < (a3.length:Int):=of_decide_eq_true tz2
      obtain ⟨g3,d8,d9,e5,e6,g4,e0,e1,e2,e7,e8,e9,f3⟩:=at_T30 f4.out a4 d6 d7
      cases g4
      replace e0:=(HB.out.cell (World.block_lt_of_cell? w _ e0)).trans e0
      replace e1:=(HB.out.cell (World.block_lt_of_cell? w _ e1)).trans e1
      replace e2:=(HB.out.cell (World.block_lt_of_cell? w _ e2)).trans e2
      have g5:=Aside0.mk e8
      have g6:=Aside0.mk e7
      clear e8 e7
      have g7:=Aside0.mk f3
      have g8:=Aside0.mk e9
      clear f3 e9
      replace d6:=eq_true d6
      replace d7:=eq_true d7
      go_wp2_with (first|((with_reducible refine gate_dst (N:=5) rfl ?_);refine box_event ?hg (N:=5) ?hd (cs:=#[.int .i64 0,.slice none 0 0,.slice none 0 0]) (t:=30) ?hr ?_;(case hd=>rfl);(case hg=>rfl);(case hr=>first|(go_simp;done)|(go_simp;rfl));intro b0 hg w8 hbox hb;refine ap7 (blk_below (blkP a5) hb) (below_step (belowP HB) hb) (hbox) ((by rw [hg];exact (below_size (belowP HB)):w.heap.size≤b0)) ((by rw [hg];exact (below_size (belowP HB)):w.heap.size≤b0)) ((by rw [hg];exact Nat.ne_of_lt (blk_lt (blkP a5)):a7≠b0)) ((by rw [hg];exact Nat.ne_of_gt (blk_lt (blkP a5)):b0≠a7)) ?_;clear a5 HB;intro a5 HB a8 GW121 g9 c0 h0;clear hb hbox hg;have h6:=h0.out;have h7:=c0.out;have h8:w8.cell? ⟨b0,0,none⟩=some (.int .i64 0):=(blk_cell a8.out 0).trans rfl;have h9:w8.cell? ⟨b0,1,none⟩=some (.slice none 0 0):=(blk_cell a8.out 1).trans rfl;have i0:w8.cell? ⟨b0,2,none⟩=some (.slice none 0 0):=(blk_cell a8.out 2).trans rfl;have i1:=blk_frozen a8.out 0;have i2:=blk_frozen a8.out 1;have i3:=blk_frozen a8.out 2)|((with_reducible refine gate_callee (f:=18) rfl ?_);refine goesL_ (some 22) rfl rfl Try.func18 (by kernel_rfl) rfl #[.agg #[.int .i64 ((rd_T30 a3 a4).f0),.slice d8 ((rd_T30 a3 a4).f1).length d9,.slice e5 ((rd_T30 a3 a4).f2).length e6]] rfl tz0 ?_;(with_reducible refine (ih k1 (by have:=d5.out;omega) ((rd_T30 a3 a4).f0) _ _ ((rd_T30 a3 a4).f1) _ _ ((rd_T30 a3 a4).f2) b7 _ ?side1 ?side2 ?side3 ?side4 A7.out).mono ?_);(case side1=>exact Kd.C_below g5.out (belowP HB));(case side2=>exact g6.out);(case side3=>exact Kd.C_below g7.out (belowP HB));(case side4=>exact g8.out);rintro e i4 ⟨rfl,hb⟩;refine ⟨_,rfl,?_⟩;refine ap3 (blk_below (g:=a7) (o:=.cells #[.int .i64 a9,.slice b2 a6.length b3,.slice (some g3) a3.length b4] 30 (0,0)) (by refine blkQ ?_;refine blk_far ?_ c0.out _;refine blkQ ?_;refine blk_far ?_ c0.out _;refine blkQ ?_;refine blk_far ?_ c0.out _;refine blkQ ?_;exact a5.out) hb) (blk_below (g:=b0) (o:=.cells #[.int .i64 ((rd_T30 a3 a4).f0),.slice d8 ((rd_T30 a3 a4).f1).length d9,.slice e5 ((rd_T30 a3 a4).f2).length e6] 30 (0,0)) (by refine blkQ ?_;refine blk_put (cs:=#[.int .i64 ((rd_T30 a3 a4).f0),.slice d8 ((rd_T30 a3 a4).f1).length d9,.slice none 0 0]) ?_ 2 _ rfl;refine blkQ ?_;refine blk_put (cs:=#[.int .i64 ((rd_T30 a3 a4).f0),.slice none 0 0,.slice none 0 0]) ?_ 1 _ rfl;refine blkQ ?_;refine blk_put (cs:=#[.int .i64 0,.slice none 0 0,.slice none 0 0]) ?_ 0 _ rfl;refine blkQ ?_;exact a8.out) hb) (below_step (belowP HB) hb) ?_;clear a5 a8 HB;intro a5 a8 HB))
      go_roundg k1
      case measure=>have:=d5.out;omega
      case rel=>exact ⟨(wrap64 (b8 + b7)),(wrap64 (a4 + 1)),tz3,tz3,H',⟨by have:=d5.out;omega⟩,⟨by refine blkQ ?_;exact a5.out⟩,⟨by repeat (first|(with_reducible first|exact HB.out|apply below_alloc|apply pw_below_drewN|apply below_drew1|refine below_set ?_ d4.out|refine below_set ?_ g9.out)|exact HB.out)⟩⟩
     ·rw [if_neg c6] at H
      exact absurd H (by simp)
    ·rw [if_neg c5] at H
     exact absurd H (by simp)
   ·rw [if_neg c4] at H
    have g2:decide (a4 < (a3.length:Int))=false:=decide_eq_false c4
    clear c4
    obtain rfl:=Option.some.inj H
    go_wp2
    go_ret
    exact ⟨rE,by repeat (first|(with_reducible first|exact HB.out|apply below_alloc|apply pw_below_drewN|apply below_drew1|refine below_set ?_ d4.out)|exact HB.out)⟩
def threshold_Valid.f (k:Nat) (a6:Int) (a4:List Int) (a5:List (S30)):Option (Int):=(threshold_Depth.f k a6 a4 a5).bind fun b3=>(if b3 > 4 then (some 3) else ((threshold_Size.f k a6 a4 a5).bind fun b2=>(if b2 > 200 then (some 3) else ((threshold_level.f k a6 a4 a5).bind fun b4=>(some b4)))))
theorem threshold_Valid.mono:∀ a0 a1 a2 k,LeO (threshold_Valid.f k a0 a1 a2) (threshold_Valid.f (k + 1) a0 a1 a2):=by
 intro a0 a1 a2 k
 unfold threshold_Valid.f
 repeat' first
   | (with_reducible apply threshold_Depth.mono)
   | (with_reducible apply threshold_Size.mono)
   | (with_reducible apply threshold_level.mono)
   | (with_reducible exact LeO.refl _)
   | (with_reducible exact LeO.none _)
   | (with_reducible refine LeO.ite ?_ ?_)
   | (with_reducible refine LeO.bind ?_ (fun _=>?_))
set_option maxHeartbeats 8000000 in
set_option maxRecDepth 100000 in
theorem threshold_Valid.calls (k:Nat) (a6:Int) (a8:Option Addr) (a9:Nat) (a4:List Int) (b0:Option Addr) (b1:Nat) (a5:List (S30)) (r:Int) (w:World) (d2:Kd.C (Kd.int .i64) w a8 a4.length a4) (d3:a4.length≤a9) (d4:Kd.C k30 w b0 a5.length a5) (d5:a5.length≤b1) (h:threshold_Valid.f k a6 a4 a5=some r) :
  Calls Try.prog 11 #[.agg #[.int .i64 a6,.slice a8 a4.length a9,.slice b0 a5.length b1]] w fun e w'=>e = .returned (.int .i64 r)∧Below w.heap.size w w':=by
 have hu30:=Try.underlying30
 have b5:=Aside0.mk d2
 have b6:=Aside0.mk d3
 clear d2 d3
 have b7:=Aside0.mk d4
 have b8:=Aside0.mk d5
 clear d4 d5
 have HB:=Aside0.mk (Below.refl w.heap.size w)
 have H:((threshold_Depth.f k a6 a4 a5).bind fun b3=>(if b3 > 4 then (some 3) else ((threshold_Size.f k a6 a4 a5).bind fun b2=>(if b2 > 200 then (some 3) else ((threshold_level.f k a6 a4 a5).bind fun b4=>(some b4))))))=some r:=h
 clear h
 replace H:=Option.bind_eq_some_iff.mp H
 obtain ⟨b3,d6,H⟩:=H
 replace H:(if b3 > 4 then (some 3) else ((threshold_Size.f k a6 a4 a5).bind fun b2=>(if b2 > 200 then (some 3) else ((threshold_level.f k a6 a4 a5).bind fun b4=>(some b4)))))=some r:=H
 have A2:=Aside0.mk d6
 clear d6
 by_cases c3:b3 > 4
 ·rw [if_pos c3] at H
  have d9:decide (4 < b3)=true:=decide_eq_true c3
  clear c3
  obtain rfl:=Option.some.inj H
  go_enter Try.func11,Try.ntmps11
  go_wp2_with (first|((with_reducible refine gate_dst (N:=1) rfl ?_);refine box_event ?hg (N:=1) ?hd (cs:=#[.int .i64 a6,.slice a8 a4.length a9,.slice b0 a5.length b1]) (t:=30) ?hr ?_;(case hd=>rfl);(case hg=>rfl);(case hr=>first|(go_simp;done)|(go_simp;rfl));intro a7 hg w4 hbox hb;refine ap4 (below_step (belowP HB) hb) (hbox) ((by rw [hg];exact (below_size (belowP HB)):w.heap.size≤a7)) ((by rw [hg];exact (below_size (belowP HB)):w.heap.size≤a7)) ?_;clear HB;intro HB a3 GW138 b9;clear hb hbox hg;have e2:w4.cell? ⟨a7,0,none⟩=some (.int .i64 a6):=(blk_cell a3.out 0).trans rfl;have e3:w4.cell? ⟨a7,1,none⟩=some (.slice a8 a4.length a9):=(blk_cell a3.out 1).trans rfl;have e4:w4.cell? ⟨a7,2,none⟩=some (.slice b0 a5.length b1):=(blk_cell a3.out 2).trans rfl;have e5:=blk_frozen a3.out 0;have e6:=blk_frozen a3.out 1;have e7:=blk_frozen a3.out 2)|((with_reducible refine gate_callee (f:=17) rfl ?_);refine goesL_ (some 4) rfl rfl Try.func17 (by kernel_rfl) rfl #[.agg #[.int .i64 a6,.slice a8 a4.length a9,.slice b0 a5.length b1]] rfl tz0 ?_;(with_reducible refine (threshold_Depth.calls k a6 _ _ a4 _ _ a5 b3 _ ?side1 ?side2 ?side3 ?side4 A2.out).mono ?_);(case side1=>exact Kd.C_q (Kd.C_below b5.out HB.out));(case side2=>exact b6.out);(case side3=>exact Kd.C_q (Kd.C_below b7.out HB.out));(case side4=>exact b8.out);rintro e w6 ⟨rfl,hb⟩;refine ⟨_,rfl,?_⟩;refine ap2 (blk_below (blkP a3) hb) (below_step (belowP HB) hb) ?_;clear a3 HB;intro a3 HB))
  go_ret
  exact ⟨rE,by repeat (first|(with_reducible first|exact HB.out|apply below_alloc|apply pw_below_drewN|apply below_drew1|refine below_set ?_ b9.out)|exact HB.out)⟩
 ·rw [if_neg c3] at H
  have d9:decide (4 < b3)=false:=decide_eq_false c3
  clear c3
  replace H:=Option.bind_eq_some_iff.mp H
  obtain ⟨b2,d7,H⟩:=H
  replace H:(if b2 > 200 then (some 3) else ((threshold_level.f k a6 a4 a5).bind fun b4=>(some b4)))=some r:=H
  have A7:=Aside0.mk d7
  clear d7
  by_cases c8:b2 > 200
  ·rw [if_pos c8] at H
   have e0:decide (200 < b2)=true:=decide_eq_true c8
   clear c8
   obtain rfl:=Option.some.inj H
   go_enter Try.func11,Try.ntmps11
   go_wp2_with (first|((with_reducible refine gate_dst (N:=1) rfl ?_);refine box_event ?hg (N:=1) ?hd (cs:=#[.int .i64 a6,.slice a8 a4.length a9,.slice b0 a5.length b1]) (t:=30) ?hr ?_;(case hd=>rfl);(case hg=>rfl);(case hr=>first|(go_simp;done)|(go_simp;rfl));intro a7 hg w9 hbox hb;refine ap4 (below_step (belowP HB) hb) (hbox) ((by rw [hg];exact (below_size (belowP HB)):w.heap.size≤a7)) ((by rw [hg];exact (below_size (belowP HB)):w.heap.size≤a7)) ?_;clear HB;intro HB a3 GW138 b9;clear hb hbox hg;have e8:w9.cell? ⟨a7,0,none⟩=some (.int .i64 a6):=(blk_cell a3.out 0).trans rfl;have e9:w9.cell? ⟨a7,1,none⟩=some (.slice a8 a4.length a9):=(blk_cell a3.out 1).trans rfl;have f0:w9.cell? ⟨a7,2,none⟩=some (.slice b0 a5.length b1):=(blk_cell a3.out 2).trans rfl;have f1:=blk_frozen a3.out 0;have f2:=blk_frozen a3.out 1;have f3:=blk_frozen a3.out 2)|((with_reducible refine gate_callee (f:=17) rfl ?_);refine goesL_ (some 4) rfl rfl Try.func17 (by kernel_rfl) rfl #[.agg #[.int .i64 a6,.slice a8 a4.length a9,.slice b0 a5.length b1]] rfl tz0 ?_;(with_reducible refine (threshold_Depth.calls k a6 _ _ a4 _ _ a5 b3 _ ?side1 ?side2 ?side3 ?side4 A2.out).mono ?_);(case side1=>exact Kd.C_q (Kd.C_below b5.out HB.out));(case side2=>exact b6.out);(case side3=>exact Kd.C_q (Kd.C_below b7.out HB.out));(case side4=>exact b8.out);rintro e c0 ⟨rfl,hb⟩;refine ⟨_,rfl,?_⟩;refine ap2 (blk_below (blkP a3) hb) (below_step (belowP HB) hb) ?_;clear a3 HB;intro a3 HB;have f4:c0.cell? ⟨a7,0,none⟩=some (.int .i64 a6):=(blk_cell a3.out 0).trans rfl;have f5:c0.cell? ⟨a7,1,none⟩=some (.slice a8 a4.length a9):=(blk_cell a3.out 1).trans rfl;have f6:c0.cell? ⟨a7,2,none⟩=some (.slice b0 a5.length b1):=(blk_cell a3.out 2).trans rfl;have f7:=blk_frozen a3.out 0;have f8:=blk_frozen a3.out 1;have f9:=blk_frozen a3.out 2)|(go_at_call 18;(with_reducible refine (threshold_Size.calls k a6 _ _ a4 _ _ a5 b2 _ ?side1 ?side2 ?side3 ?side4 A7.out).mono ?_);(case side1=>exact Kd.C_q (Kd.C_below b5.out HB.out));(case side2=>exact b6.out);(case side3=>exact Kd.C_q (Kd.C_below b7.out HB.out));(case side4=>exact b8.out);rintro e g0 ⟨rfl,hb⟩;refine ap2 (blk_below (blkP a3) hb) (below_step (belowP HB) hb) ?_;clear a3 HB;intro a3 HB))
   go_ret
   exact ⟨rE,by repeat (first|(with_reducible first|exact HB.out|apply below_alloc|apply pw_below_drewN|apply below_drew1|refine below_set ?_ b9.out)|exact HB.out)⟩
  ·rw [if_neg c8] at H
   have e0:decide (200 < b2)=false:=decide_eq_false c8
   clear c8
   replace H:=Option.bind_eq_some_iff.mp H
   obtain ⟨b4,d8,H⟩:=H
   replace H:(some b4)=some r:=H
   have e1:=Aside0.mk d8
   clear d8
   obtain rfl:=Option.some.inj H
   go_enter Try.func11,Try.ntmps11
   go_wp2_with (first|((with_reducible refine gate_dst (N:=1) rfl ?_);refine box_event ?hg (N:=1) ?hd (cs:=#[.int .i64 a6,.slice a8 a4.length a9,.slice b0 a5.length b1]) (t:=30) ?hr ?_;(case hd=>rfl);(case hg=>rfl);(case hr=>first|(go_simp;done)|(go_simp;rfl));intro a7 hg c1 hbox hb;refine ap4 (below_step (belowP HB) hb) (hbox) ((by rw [hg];exact (below_size (belowP HB)):w.heap.size≤a7)) ((by rw [hg];exact (below_size (belowP HB)):w.heap.size≤a7)) ?_;clear HB;intro HB a3 GW138 b9;clear hb hbox hg;have g1:c1.cell? ⟨a7,0,none⟩=some (.int .i64 a6):=(blk_cell a3.out 0).trans rfl;have g2:c1.cell? ⟨a7,1,none⟩=some (.slice a8 a4.length a9):=(blk_cell a3.out 1).trans rfl;have g3:c1.cell? ⟨a7,2,none⟩=some (.slice b0 a5.length b1):=(blk_cell a3.out 2).trans rfl;have g4:=blk_frozen a3.out 0;have g5:=blk_frozen a3.out 1;have g6:=blk_frozen a3.out 2)|((with_reducible refine gate_callee (f:=17) rfl ?_);refine goesL_ (some 4) rfl rfl Try.func17 (by kernel_rfl) rfl #[.agg #[.int .i64 a6,.slice a8 a4.length a9,.slice b0 a5.length b1]] rfl tz0 ?_;(with_reducible refine (threshold_Depth.calls k a6 _ _ a4 _ _ a5 b3 _ ?side1 ?side2 ?side3 ?side4 A2.out).mono ?_);(case side1=>exact Kd.C_q (Kd.C_below b5.out HB.out));(case side2=>exact b6.out);(case side3=>exact Kd.C_q (Kd.C_below b7.out HB.out));(case side4=>exact b8.out);rintro e d0 ⟨rfl,hb⟩;refine ⟨_,rfl,?_⟩;refine ap2 (blk_below (blkP a3) hb) (below_step (belowP HB) hb) ?_;clear a3 HB;intro a3 HB;have g7:d0.cell? ⟨a7,0,none⟩=some (.int .i64 a6):=(blk_cell a3.out 0).trans rfl;have g8:d0.cell? ⟨a7,1,none⟩=some (.slice a8 a4.length a9):=(blk_cell a3.out 1).trans rfl;have g9:d0.cell? ⟨a7,2,none⟩=some (.slice b0 a5.length b1):=(blk_cell a3.out 2).trans rfl;have h0:=blk_frozen a3.out 0;have h1:=blk_frozen a3.out 1;have h2:=blk_frozen a3.out 2)|(go_at_call 18;(with_reducible refine (threshold_Size.calls k a6 _ _ a4 _ _ a5 b2 _ ?side1 ?side2 ?side3 ?side4 A7.out).mono ?_);(case side1=>exact Kd.C_q (Kd.C_below b5.out HB.out));(case side2=>exact b6.out);(case side3=>exact Kd.C_q (Kd.C_below b7.out HB.out));(case side4=>exact b8.out);rintro e d1 ⟨rfl,hb⟩;refine ap2 (blk_below (blkP a3) hb) (below_step (belowP HB) hb) ?_;clear a3 HB;intro a3 HB;have h3:d1.cell? ⟨a7,0,none⟩=some (.int .i64 a6):=(blk_cell a3.out 0).trans rfl;have h4:d1.cell? ⟨a7,1,none⟩=some (.slice a8 a4.length a9):=(blk_cell a3.out 1).trans rfl;have h5:d1.cell? ⟨a7,2,none⟩=some (.slice b0 a5.length b1):=(blk_cell a3.out 2).trans rfl;have h6:=blk_frozen a3.out 0;have h7:=blk_frozen a3.out 1;have h8:=blk_frozen a3.out 2)|((with_reducible refine gate_callee (f:=19) rfl ?_);refine goesL_ (some 12) rfl rfl Try.func19 (by kernel_rfl) rfl #[.agg #[.int .i64 a6,.slice a8 a4.length a9,.slice b0 a5.length b1]] rfl tz0 ?_;(with_reducible refine (threshold_level.calls k a6 _ _ a4 _ _ a5 b4 _ ?side1 ?side2 ?side3 ?side4 e1.out).mono ?_);(case side1=>exact Kd.C_q (Kd.C_below b5.out HB.out));(case side2=>exact b6.out);(case side3=>exact Kd.C_q (Kd.C_below b7.out HB.out));(case side4=>exact b8.out);rintro e h9 ⟨rfl,hb⟩;refine ⟨_,rfl,?_⟩;refine ap2 (blk_below (blkP a3) hb) (below_step (belowP HB) hb) ?_;clear a3 HB;intro a3 HB))
   go_ret
   exact ⟨rE,by repeat (first|(with_reducible first|exact HB.out|apply below_alloc|apply pw_below_drewN|apply below_drew1|refine below_set ?_ b9.out)|exact HB.out)⟩
def federated_Plain.f (k:Nat) (a9:Int) (b4:Int) (b5:Int) (b0:List Int) (b1:List (S30)) (b2:List (S117)) (b3:List (S117)):Option (Bool):=(federated_node.f a9).bind fun e4=>(if e4=true then (if b4≥1 then ((threshold_Valid.f k b5 b0 b1).bind fun b6=>(if b6=0 then ((claims_Plain.f k b2).bind fun d4=>(if d4=true then ((claims_Plain.f k b3).bind fun d3=>(some d3)) else (some false))) else (some false))) else (some false)) else (some false))
theorem federated_Plain.mono:∀ a0 a1 a2 a3 a4 a5 a6 k,LeO (federated_Plain.f k a0 a1 a2 a3 a4 a5 a6) (federated_Plain.f (k + 1) a0 a1 a2 a3 a4 a5 a6):=by
 intro a0 a1 a2 a3 a4 a5 a6 k
 unfold federated_Plain.f
 repeat' first
   | (with_reducible apply claims_Plain.mono)
   | (with_reducible apply threshold_Valid.mono)
   | (with_reducible exact LeO.refl _)
   | (with_reducible exact LeO.none _)
   | (with_reducible refine LeO.ite ?_ ?_)
   | (with_reducible refine LeO.bind ?_ (fun _=>?_))
set_option maxHeartbeats 8000000 in
set_option maxRecDepth 100000 in
theorem federated_Plain.calls (k:Nat) (a9:Int) (b4:Int) (b5:Int) (b7:Option Addr) (b8:Nat) (b0:List Int) (b9:Option Addr) (c0:Nat) (b1:List (S30)) (c1:Option Addr) (d0:Nat) (b2:List (S117)) (d1:Option Addr) (d2:Nat) (b3:List (S117)) (r:Bool) (w:World) (e9:Kd.C (Kd.int .i64) w b7 b0.length b0) (f0:b0.length≤b8) (f1:Kd.C k30 w b9 b1.length b1) (f2:b1.length≤c0) (f3:Kd.C k117 w c1 b2.length b2) (f4:b2.length≤d0) (f5:Kd.C k117 w d1 b3.length b3) (f6:b3.length≤d2) (h:federated_Plain.f k a9 b4 b5 b0 b1 b2 b3=some r) :
  Calls Try.prog 53 #[.agg #[.int .i64 a9,.int .i64 b4,.int .i64 b5,.slice b7 b0.length b8,.slice b9 b1.length c0,.slice c1 b2.length d0,.slice d1 b3.length d2]] w fun e w'=>e = .returned (.bool r)∧Below w.heap.size w w':=by
 have hu72:=Try.underlying72
 have hu30:=Try.underlying30
 have e5:=Aside0.mk e9
 have e6:=Aside0.mk f0
 clear e9 f0
 have e7:=Aside0.mk f1
 have e8:=Aside0.mk f2
 clear f1 f2
 have f7:=Aside0.mk f3
 have f8:=Aside0.mk f4
 clear f3 f4
 have g3:=Aside0.mk f5
 have g4:=Aside0.mk f6
 clear f5 f6
 have HB:=Aside0.mk (Below.refl w.heap.size w)
 have H:((federated_node.f a9).bind fun e4=>(if e4=true then (if b4≥1 then ((threshold_Valid.f k b5 b0 b1).bind fun b6=>(if b6=0 then ((claims_Plain.f k b2).bind fun d4=>(if d4=true then ((claims_Plain.f k b3).bind fun d3=>(some d3)) else (some false))) else (some false))) else (some false)) else (some false)))=some r:=h
 clear h
 replace H:=Option.bind_eq_some_iff.mp H
 obtain ⟨e4,f9,H⟩:=H
 replace H:(if e4=true then (if b4≥1 then ((threshold_Valid.f k b5 b0 b1).bind fun b6=>(if b6=0 then ((claims_Plain.f k b2).bind fun d4=>(if d4=true then ((claims_Plain.f k b3).bind fun d3=>(some d3)) else (some false))) else (some false))) else (some false)) else (some false))=some r:=H
 have A2:=Aside0.mk f9
 clear f9
 by_cases c3:e4=true
 ·subst c3
  rw [if_pos rfl] at H
  by_cases c4:b4≥1
  ·rw [if_pos c4] at H
   have g5:decide (1≤b4)=true:=decide_eq_true c4
   clear c4
   replace H:=Option.bind_eq_some_iff.mp H
   obtain ⟨b6,g0,H⟩:=H
   replace H:(if b6=0 then ((claims_Plain.f k b2).bind fun d4=>(if d4=true then ((claims_Plain.f k b3).bind fun d3=>(some d3)) else (some false))) else (some false))=some r:=H
   have A5:=Aside0.mk g0
   clear g0
   by_cases c6:b6=0
   ·rw [if_pos c6] at H
    have g6:(b6 == 0)=true:=beq_iff_eq.mpr c6
    have g7:(b6 != 0)=false:=bne_eq_false_iff_eq.mpr c6
    clear c6
    replace H:=Option.bind_eq_some_iff.mp H
    obtain ⟨d4,g1,H⟩:=H
    replace H:(if d4=true then ((claims_Plain.f k b3).bind fun d3=>(some d3)) else (some false))=some r:=H
    have A7:=Aside0.mk g1
    clear g1
    by_cases c8:d4=true
    ·subst c8
     rw [if_pos rfl] at H
     replace H:=Option.bind_eq_some_iff.mp H
     obtain ⟨d3,g2,H⟩:=H
     replace H:(some d3)=some r:=H
     have A9:=Aside0.mk g2
     clear g2
     obtain rfl:=Option.some.inj H
     go_enter Try.func53,Try.ntmps53
     go_wp2_with (first|((with_reducible refine gate_dst (N:=1) rfl ?_);refine box_event ?hg (N:=1) ?hd (cs:=#[.int .i64 a9,.int .i64 b4,.int .i64 b5,.slice b7 b0.length b8,.slice b9 b1.length c0,.slice c1 b2.length d0,.slice d1 b3.length d2]) (t:=72) ?hr ?_;(case hd=>rfl);(case hg=>rfl);(case hr=>first|(go_simp;done)|(go_simp;rfl));intro a8 hg d6 hbox hb;refine ap4 (below_step (belowP HB) hb) (hbox) ((by rw [hg];exact (below_size (belowP HB)):w.heap.size≤a8)) ((by rw [hg];exact (below_size (belowP HB)):w.heap.size≤a8)) ?_;clear HB;intro HB a7 GW318 d5;clear hb hbox hg;have g8:d6.cell? ⟨a8,0,none⟩=some (.int .i64 a9):=(blk_cell a7.out 0).trans rfl;have g9:d6.cell? ⟨a8,1,none⟩=some (.int .i64 b4):=(blk_cell a7.out 1).trans rfl;have h0:d6.cell? ⟨a8,2,none⟩=some (.int .i64 b5):=(blk_cell a7.out 2).trans rfl;have h1:d6.cell? ⟨a8,3,none⟩=some (.slice b7 b0.length b8):=(blk_cell a7.out 3).trans rfl;have h2:d6.cell? ⟨a8,4,none⟩=some (.slice b9 b1.length c0):=(blk_cell a7.out 4).trans rfl;have h3:d6.cell? ⟨a8,5,none⟩=some (.slice c1 b2.length d0):=(blk_cell a7.out 5).trans rfl;have h4:d6.cell? ⟨a8,6,none⟩=some (.slice d1 b3.length d2):=(blk_cell a7.out 6).trans rfl;have h5:=blk_frozen a7.out 0;have h6:=blk_frozen a7.out 1;have h7:=blk_frozen a7.out 2;have h8:=blk_frozen a7.out 3;have h9:=blk_frozen a7.out 4;have i0:=blk_frozen a7.out 5;have i1:=blk_frozen a7.out 6)|((with_reducible refine gate_callee (f:=55) rfl ?_);refine goesL_ (some 5) rfl rfl Try.func55 (by kernel_rfl) rfl #[.int .i64 a9] rfl tz0 ?_;(with_reducible refine (federated_node.calls a9 true _ A2.out).mono ?_);rintro e w' ⟨rfl,⟨nd,rfl⟩⟩;refine ⟨_,rfl,?_⟩)|(go_at_call 11;(with_reducible refine (threshold_Valid.calls k b5 _ _ b0 _ _ b1 b6 _ ?side1 ?side2 ?side3 ?side4 A5.out).mono ?_);(case side1=>exact (Kd.C_below e5.out (belowP HB)));(case side2=>exact e6.out);(case side3=>exact (Kd.C_below e7.out (belowP HB)));(case side4=>exact e8.out);rintro e d7 ⟨rfl,hb⟩;refine ap2 (blk_below (blkP a7) hb) (below_step (belowP HB) hb) ?_;clear a7 HB;intro a7 HB;have i2:d7.cell? ⟨a8,0,none⟩=some (.int .i64 a9):=(blk_cell a7.out 0).trans rfl;have i3:d7.cell? ⟨a8,1,none⟩=some (.int .i64 b4):=(blk_cell a7.out 1).trans rfl;have i4:d7.cell? ⟨a8,2,none⟩=some (.int .i64 b5):=(blk_cell a7.out 2).trans rfl;have i5:d7.cell? ⟨a8,3,none⟩=some (.slice b7 b0.length b8):=(blk_cell a7.out 3).trans rfl;have i6:d7.cell? ⟨a8,4,none⟩=some (.slice b9 b1.length c0):=(blk_cell a7.out 4).trans rfl;have i7:d7.cell? ⟨a8,5,none⟩=some (.slice c1 b2.length d0):=(blk_cell a7.out 5).trans rfl;have i8:d7.cell? ⟨a8,6,none⟩=some (.slice d1 b3.length d2):=(blk_cell a7.out 6).trans rfl;have i9:=blk_frozen a7.out 0;have j2:=blk_frozen a7.out 1;have j3:=blk_frozen a7.out 2;have j4:=blk_frozen a7.out 3;have j5:=blk_frozen a7.out 4;have j6:=blk_frozen a7.out 5;have j7:=blk_frozen a7.out 6)|(go_at_call 66;(with_reducible refine (claims_Plain.calls k _ _ b2 true _ ?side1 ?side2 A7.out).mono ?_);(case side1=>exact Kd.C_q (Kd.C_below f7.out HB.out));(case side2=>exact f8.out);rintro e d8 ⟨rfl,hb⟩;refine ap2 (blk_below (blkP a7) hb) (below_step (belowP HB) hb) ?_;clear a7 HB;intro a7 HB;have j8:d8.cell? ⟨a8,0,none⟩=some (.int .i64 a9):=(blk_cell a7.out 0).trans rfl;have j9:d8.cell? ⟨a8,1,none⟩=some (.int .i64 b4):=(blk_cell a7.out 1).trans rfl;have k0:d8.cell? ⟨a8,2,none⟩=some (.int .i64 b5):=(blk_cell a7.out 2).trans rfl;have k1:d8.cell? ⟨a8,3,none⟩=some (.slice b7 b0.length b8):=(blk_cell a7.out 3).trans rfl;have k2:d8.cell? ⟨a8,4,none⟩=some (.slice b9 b1.length c0):=(blk_cell a7.out 4).trans rfl;have k3:d8.cell? ⟨a8,5,none⟩=some (.slice c1 b2.length d0):=(blk_cell a7.out 5).trans rfl;have k4:d8.cell? ⟨a8,6,none⟩=some (.slice d1 b3.length d2):=(blk_cell a7.out 6).trans rfl;have k5:=blk_frozen a7.out 0;have k6:=blk_frozen a7.out 1;have k7:=blk_frozen a7.out 2;have k8:=blk_frozen a7.out 3;have k9:=blk_frozen a7.out 4;have l3:=blk_frozen a7.out 5;have l4:=blk_frozen a7.out 6)|(go_at_call 66;(with_reducible refine (claims_Plain.calls k _ _ b3 d3 _ ?side1 ?side2 A9.out).mono ?_);(case side1=>exact Kd.C_q (Kd.C_below g3.out HB.out));(case side2=>exact g4.out);rintro e l5 ⟨rfl,hb⟩;refine ap2 (blk_below (blkP a7) hb) (below_step (belowP HB) hb) ?_;clear a7 HB;intro a7 HB))
     go_ret
     exact ⟨rE,by repeat (first|(with_reducible first|exact HB.out|apply below_alloc|apply pw_below_drewN|apply below_drew1|refine below_set ?_ d5.out)|exact HB.out)⟩
    ·replace c8:=Bool.eq_false_iff.mpr c8
     subst c8
     rw [if_neg (show ¬ (false=true) by decide)] at H
     obtain rfl:=Option.some.inj H
     go_enter Try.func53,Try.ntmps53
     go_wp2_with (first|((with_reducible refine gate_dst (N:=1) rfl ?_);refine box_event ?hg (N:=1) ?hd (cs:=#[.int .i64 a9,.int .i64 b4,.int .i64 b5,.slice b7 b0.length b8,.slice b9 b1.length c0,.slice c1 b2.length d0,.slice d1 b3.length d2]) (t:=72) ?hr ?_;(case hd=>rfl);(case hg=>rfl);(case hr=>first|(go_simp;done)|(go_simp;rfl));intro a8 hg d9 hbox hb;refine ap4 (below_step (belowP HB) hb) (hbox) ((by rw [hg];exact (below_size (belowP HB)):w.heap.size≤a8)) ((by rw [hg];exact (below_size (belowP HB)):w.heap.size≤a8)) ?_;clear HB;intro HB a7 GW318 d5;clear hb hbox hg;have l6:d9.cell? ⟨a8,0,none⟩=some (.int .i64 a9):=(blk_cell a7.out 0).trans rfl;have l7:d9.cell? ⟨a8,1,none⟩=some (.int .i64 b4):=(blk_cell a7.out 1).trans rfl;have l8:d9.cell? ⟨a8,2,none⟩=some (.int .i64 b5):=(blk_cell a7.out 2).trans rfl;have l9:d9.cell? ⟨a8,3,none⟩=some (.slice b7 b0.length b8):=(blk_cell a7.out 3).trans rfl;have m0:d9.cell? ⟨a8,4,none⟩=some (.slice b9 b1.length c0):=(blk_cell a7.out 4).trans rfl;have m1:d9.cell? ⟨a8,5,none⟩=some (.slice c1 b2.length d0):=(blk_cell a7.out 5).trans rfl;have m2:d9.cell? ⟨a8,6,none⟩=some (.slice d1 b3.length d2):=(blk_cell a7.out 6).trans rfl;have m3:=blk_frozen a7.out 0;have m4:=blk_frozen a7.out 1;have m5:=blk_frozen a7.out 2;have m6:=blk_frozen a7.out 3;have m7:=blk_frozen a7.out 4;have m8:=blk_frozen a7.out 5;have m9:=blk_frozen a7.out 6)|((with_reducible refine gate_callee (f:=55) rfl ?_);refine goesL_ (some 5) rfl rfl Try.func55 (by kernel_rfl) rfl #[.int .i64 a9] rfl tz0 ?_;(with_reducible refine (federated_node.calls a9 true _ A2.out).mono ?_);rintro e w' ⟨rfl,⟨nd,rfl⟩⟩;refine ⟨_,rfl,?_⟩)|(go_at_call 11;(with_reducible refine (threshold_Valid.calls k b5 _ _ b0 _ _ b1 b6 _ ?side1 ?side2 ?side3 ?side4 A5.out).mono ?_);(case side1=>exact (Kd.C_below e5.out (belowP HB)));(case side2=>exact e6.out);(case side3=>exact (Kd.C_below e7.out (belowP HB)));(case side4=>exact e8.out);rintro e e0 ⟨rfl,hb⟩;refine ap2 (blk_below (blkP a7) hb) (below_step (belowP HB) hb) ?_;clear a7 HB;intro a7 HB;have n0:e0.cell? ⟨a8,0,none⟩=some (.int .i64 a9):=(blk_cell a7.out 0).trans rfl;have n1:e0.cell? ⟨a8,1,none⟩=some (.int .i64 b4):=(blk_cell a7.out 1).trans rfl;have n2:e0.cell? ⟨a8,2,none⟩=some (.int .i64 b5):=(blk_cell a7.out 2).trans rfl;have n3:e0.cell? ⟨a8,3,none⟩=some (.slice b7 b0.length b8):=(blk_cell a7.out 3).trans rfl;have n4:e0.cell? ⟨a8,4,none⟩=some (.slice b9 b1.length c0):=(blk_cell a7.out 4).trans rfl;have n5:e0.cell? ⟨a8,5,none⟩=some (.slice c1 b2.length d0):=(blk_cell a7.out 5).trans rfl;have n6:e0.cell? ⟨a8,6,none⟩=some (.slice d1 b3.length d2):=(blk_cell a7.out 6).trans rfl;have n7:=blk_frozen a7.out 0;have n8:=blk_frozen a7.out 1;have n9:=blk_frozen a7.out 2;have o0:=blk_frozen a7.out 3;have o1:=blk_frozen a7.out 4;have o2:=blk_frozen a7.out 5;have o3:=blk_frozen a7.out 6)|(go_at_call 66;(with_reducible refine (claims_Plain.calls k _ _ b2 false _ ?side1 ?side2 A7.out).mono ?_);(case side1=>exact Kd.C_q (Kd.C_below f7.out HB.out));(case side2=>exact f8.out);rintro e o4 ⟨rfl,hb⟩;refine ap2 (blk_below (blkP a7) hb) (below_step (belowP HB) hb) ?_;clear a7 HB;intro a7 HB))
     go_ret
     exact ⟨rE,by repeat (first|(with_reducible first|exact HB.out|apply below_alloc|apply pw_below_drewN|apply below_drew1|refine below_set ?_ d5.out)|exact HB.out)⟩
   ·rw [if_neg c6] at H
    have g6:(b6 == 0)=false:=beq_eq_false_iff_ne.mpr c6
    have g7:(b6 != 0)=true:=bne_iff_ne.mpr c6
    obtain rfl:=Option.some.inj H
    go_enter Try.func53,Try.ntmps53
    go_wp2_with (first|((with_reducible refine gate_dst (N:=1) rfl ?_);refine box_event ?hg (N:=1) ?hd (cs:=#[.int .i64 a9,.int .i64 b4,.int .i64 b5,.slice b7 b0.length b8,.slice b9 b1.length c0,.slice c1 b2.length d0,.slice d1 b3.length d2]) (t:=72) ?hr ?_;(case hd=>rfl);(case hg=>rfl);(case hr=>first|(go_simp;done)|(go_simp;rfl));intro a8 hg e1 hbox hb;refine ap4 (below_step (belowP HB) hb) (hbox) ((by rw [hg];exact (below_size (belowP HB)):w.heap.size≤a8)) ((by rw [hg];exact (below_size (belowP HB)):w.heap.size≤a8)) ?_;clear HB;intro HB a7 GW318 d5;clear hb hbox hg;have o5:e1.cell? ⟨a8,0,none⟩=some (.int .i64 a9):=(blk_cell a7.out 0).trans rfl;have o6:e1.cell? ⟨a8,1,none⟩=some (.int .i64 b4):=(blk_cell a7.out 1).trans rfl;have o7:e1.cell? ⟨a8,2,none⟩=some (.int .i64 b5):=(blk_cell a7.out 2).trans rfl;have o8:e1.cell? ⟨a8,3,none⟩=some (.slice b7 b0.length b8):=(blk_cell a7.out 3).trans rfl;have o9:e1.cell? ⟨a8,4,none⟩=some (.slice b9 b1.length c0):=(blk_cell a7.out 4).trans rfl;have p0:e1.cell? ⟨a8,5,none⟩=some (.slice c1 b2.length d0):=(blk_cell a7.out 5).trans rfl;have p1:e1.cell? ⟨a8,6,none⟩=some (.slice d1 b3.length d2):=(blk_cell a7.out 6).trans rfl;have p2:=blk_frozen a7.out 0;have p3:=blk_frozen a7.out 1;have p4:=blk_frozen a7.out 2;have p5:=blk_frozen a7.out 3;have p6:=blk_frozen a7.out 4;have p7:=blk_frozen a7.out 5;have p8:=blk_frozen a7.out 6)|((with_reducible refine gate_callee (f:=55) rfl ?_);refine goesL_ (some 5) rfl rfl Try.func55 (by kernel_rfl) rfl #[.int .i64 a9] rfl tz0 ?_;(with_reducible refine (federated_node.calls a9 true _ A2.out).mono ?_);rintro e w' ⟨rfl,⟨nd,rfl⟩⟩;refine ⟨_,rfl,?_⟩)|(go_at_call 11;(with_reducible refine (threshold_Valid.calls k b5 _ _ b0 _ _ b1 b6 _ ?side1 ?side2 ?side3 ?side4 A5.out).mono ?_);(case side1=>exact (Kd.C_below e5.out (belowP HB)));(case side2=>exact e6.out);(case side3=>exact (Kd.C_below e7.out (belowP HB)));(case side4=>exact e8.out);rintro e p9 ⟨rfl,hb⟩;refine ap2 (blk_below (blkP a7) hb) (below_step (belowP HB) hb) ?_;clear a7 HB;intro a7 HB))
    go_ret
    exact ⟨rE,by repeat (first|(with_reducible first|exact HB.out|apply below_alloc|apply pw_below_drewN|apply below_drew1|refine below_set ?_ d5.out)|exact HB.out)⟩
  ·rw [if_neg c4] at H
   have g5:decide (1≤b4)=false:=decide_eq_false c4
   clear c4
   obtain rfl:=Option.some.inj H
   go_enter Try.func53,Try.ntmps53
   go_wp2_with (first|((with_reducible refine gate_dst (N:=1) rfl ?_);refine box_event ?hg (N:=1) ?hd (cs:=#[.int .i64 a9,.int .i64 b4,.int .i64 b5,.slice b7 b0.length b8,.slice b9 b1.length c0,.slice c1 b2.length d0,.slice d1 b3.length d2]) (t:=72) ?hr ?_;(case hd=>rfl);(case hg=>rfl);(case hr=>first|(go_simp;done)|(go_simp;rfl));intro a8 hg e2 hbox hb;refine ap4 (below_step (belowP HB) hb) (hbox) ((by rw [hg];exact (below_size (belowP HB)):w.heap.size≤a8)) ((by rw [hg];exact (below_size (belowP HB)):w.heap.size≤a8)) ?_;clear HB;intro HB a7 GW318 d5;clear hb hbox hg;have q0:e2.cell? ⟨a8,0,none⟩=some (.int .i64 a9):=(blk_cell a7.out 0).trans rfl;have q1:e2.cell? ⟨a8,1,none⟩=some (.int .i64 b4):=(blk_cell a7.out 1).trans rfl;have q2:e2.cell? ⟨a8,2,none⟩=some (.int .i64 b5):=(blk_cell a7.out 2).trans rfl;have q3:e2.cell? ⟨a8,3,none⟩=some (.slice b7 b0.length b8):=(blk_cell a7.out 3).trans rfl;have q4:e2.cell? ⟨a8,4,none⟩=some (.slice b9 b1.length c0):=(blk_cell a7.out 4).trans rfl;have q5:e2.cell? ⟨a8,5,none⟩=some (.slice c1 b2.length d0):=(blk_cell a7.out 5).trans rfl;have q6:e2.cell? ⟨a8,6,none⟩=some (.slice d1 b3.length d2):=(blk_cell a7.out 6).trans rfl;have q7:=blk_frozen a7.out 0;have q8:=blk_frozen a7.out 1;have q9:=blk_frozen a7.out 2;have r0:=blk_frozen a7.out 3;have r1:=blk_frozen a7.out 4;have r2:=blk_frozen a7.out 5;have r3:=blk_frozen a7.out 6)|((with_reducible refine gate_callee (f:=55) rfl ?_);refine goesL_ (some 5) rfl rfl Try.func55 (by kernel_rfl) rfl #[.int .i64 a9] rfl tz0 ?_;(with_reducible refine (federated_node.calls a9 true _ A2.out).mono ?_);rintro e w' ⟨rfl,⟨nd,rfl⟩⟩;refine ⟨_,rfl,?_⟩))
   go_ret
   exact ⟨rE,by repeat (first|(with_reducible first|exact HB.out|apply below_alloc|apply pw_below_drewN|apply below_drew1|refine below_set ?_ d5.out)|exact HB.out)⟩
 ·replace c3:=Bool.eq_false_iff.mpr c3
  subst c3
  rw [if_neg (show ¬ (false=true) by decide)] at H
  obtain rfl:=Option.some.inj H
  go_enter Try.func53,Try.ntmps53
  go_wp2_with (first|((with_reducible refine gate_dst (N:=1) rfl ?_);refine box_event ?hg (N:=1) ?hd (cs:=#[.int .i64 a9,.int .i64 b4,.int .i64 b5,.slice b7 b0.length b8,.slice b9 b1.length c0,.slice c1 b2.length d0,.slice d1 b3.length d2]) (t:=72) ?hr ?_;(case hd=>rfl);(case hg=>rfl);(case hr=>first|(go_simp;done)|(go_simp;rfl));intro a8 hg e3 hbox hb;refine ap4 (below_step (belowP HB) hb) (hbox) ((by rw [hg];exact (below_size (belowP HB)):w.heap.size≤a8)) ((by rw [hg];exact (below_size (belowP HB)):w.heap.size≤a8)) ?_;clear HB;intro HB a7 GW318 d5;clear hb hbox hg;have r4:e3.cell? ⟨a8,0,none⟩=some (.int .i64 a9):=(blk_cell a7.out 0).trans rfl;have r5:e3.cell? ⟨a8,1,none⟩=some (.int .i64 b4):=(blk_cell a7.out 1).trans rfl;have r6:e3.cell? ⟨a8,2,none⟩=some (.int .i64 b5):=(blk_cell a7.out 2).trans rfl;have r7:e3.cell? ⟨a8,3,none⟩=some (.slice b7 b0.length b8):=(blk_cell a7.out 3).trans rfl;have r8:e3.cell? ⟨a8,4,none⟩=some (.slice b9 b1.length c0):=(blk_cell a7.out 4).trans rfl;have r9:e3.cell? ⟨a8,5,none⟩=some (.slice c1 b2.length d0):=(blk_cell a7.out 5).trans rfl;have s0:e3.cell? ⟨a8,6,none⟩=some (.slice d1 b3.length d2):=(blk_cell a7.out 6).trans rfl;have s1:=blk_frozen a7.out 0;have s2:=blk_frozen a7.out 1;have s3:=blk_frozen a7.out 2;have s4:=blk_frozen a7.out 3;have s5:=blk_frozen a7.out 4;have s6:=blk_frozen a7.out 5;have s7:=blk_frozen a7.out 6)|((with_reducible refine gate_callee (f:=55) rfl ?_);refine goesL_ (some 5) rfl rfl Try.func55 (by kernel_rfl) rfl #[.int .i64 a9] rfl tz0 ?_;(with_reducible refine (federated_node.calls a9 false _ A2.out).mono ?_);rintro e w' ⟨rfl,⟨nd,rfl⟩⟩;refine ⟨_,rfl,?_⟩))
  go_ret
  exact ⟨rE,by repeat (first|(with_reducible first|exact HB.out|apply below_alloc|apply pw_below_drewN|apply below_drew1|refine below_set ?_ d5.out)|exact HB.out)⟩
def federated_View.l0:Nat→Int→List (S72)→Int→Int→Int→List Int→List (S30)→List (S87)→Option ((List (S87)))
 | 0,_,_,_,_,_,_,_,_=>none
 | k + 1,x0,d3,m8,d1,k5,k6,k7,g9=>if d1 < m8 then (if 0≤d1 then (if d1 < (d3.length:Int) then (if ((rd_T72 d3 d1).f0)=x0 then (federated_View.l0 k x0 d3 m8 (wrap64 (d1 + 1)) k5 k6 k7 g9) else ((federated_Plain.f k ((rd_T72 d3 d1).f0) ((rd_T72 d3 d1).f1) ((rd_T72 d3 d1).f2.f0) ((rd_T72 d3 d1).f2.f1) ((rd_T72 d3 d1).f2.f2) ((rd_T72 d3 d1).f3) ((rd_T72 d3 d1).f4)).bind fun m9=>(if m9=true then ((federated_copied.f k ((rd_T72 d3 d1).f2.f0) ((rd_T72 d3 d1).f2.f1) ((rd_T72 d3 d1).f2.f2)).bind fun i7=>(if 0≤((rd_T72 d3 d1).f0) then (if ((rd_T72 d3 d1).f0) < (g9.length:Int) then (federated_View.l0 k x0 d3 m8 (wrap64 (d1 + 1)) k5 k6 k7 (g9.set (((rd_T72 d3 d1).f0):Int).toNat (⟨true,(⟨i7.1,i7.2.1,i7.2.2⟩:S30)⟩:S87))) else (none)) else (none))) else (federated_View.l0 k x0 d3 m8 (wrap64 (d1 + 1)) k5 k6 k7 g9)))) else (none)) else (none)) else ((federated_node.f x0).bind fun n0=>(if n0=true then ((threshold_Valid.f k k5 k6 k7).bind fun e5=>(if e5=0 then ((federated_copied.f k k5 k6 k7).bind fun f7=>(if 0≤x0 then (if x0 < (g9.length:Int) then (some (g9.set (x0:Int).toNat (⟨true,(⟨f7.1,f7.2.1,f7.2.2⟩:S30)⟩:S87))) else (none)) else (none))) else (some g9))) else (some g9)))
def federated_View.f (k:Nat) (a0:Int) (b9:Int) (b7:List Int) (b8:List (S30)) (l2:List (S72)):Option ((List (S87))):=if 10≤4398046511104 then (federated_View.l0 k a0 l2 (l2.length:Int) 0 b9 b7 b8 (List.replicate 10 z87)) else (none)
theorem federated_View.mono_l:∀ k,(∀ y0 y1 y2 y3 y4 y5 y6 y7,LeO (federated_View.l0 k y0 y1 y2 y3 y4 y5 y6 y7) (federated_View.l0 (k + 1) y0 y1 y2 y3 y4 y5 y6 y7))
 | 0=>fun _ _ _ _ _ _ _ _ r h=>by simp [federated_View.l0] at h
 | k + 1=>by
  have p0:=federated_View.mono_l k
  ·intro y0 y1 y2 y3 y4 y5 y6 y7
   unfold federated_View.l0
   repeat' first
   | (with_reducible exact p0 _ _ _ _ _ _ _ _)
   | (with_reducible apply federated_Plain.mono)
   | (with_reducible apply federated_copied.mono)
   | (with_reducible apply threshold_Valid.mono)
   | (with_reducible exact LeO.refl _)
   | (with_reducible exact LeO.none _)
   | (with_reducible refine LeO.ite ?_ ?_)
   | (with_reducible refine LeO.bind ?_ (fun _=>?_))
theorem federated_View.mono:∀ a0 a1 a2 a3 a4 k,LeO (federated_View.f k a0 a1 a2 a3 a4) (federated_View.f (k + 1) a0 a1 a2 a3 a4):=by
 intro a0 a1 a2 a3 a4 k
 have p0:=federated_View.mono_l k
 unfold federated_View.f
 repeat' first
   | (with_reducible exact p0 _ _ _ _ _ _ _ _)
   | (with_reducible apply federated_Plain.mono)
   | (with_reducible apply federated_copied.mono)
   | (with_reducible apply threshold_Valid.mono)
   | (with_reducible exact LeO.refl _)
   | (with_reducible exact LeO.none _)
   | (with_reducible refine LeO.ite ?_ ?_)
   | (with_reducible refine LeO.bind ?_ (fun _=>?_))
def federated_View.T6:Bool × List (List Nat × List Nat):=(true,[([],[]),([0],[0]),([],[]),([2],[2]),([],[]),([4],[4]),([5],[5]),([6],[6]),([1,3,0,1,2,3,4,5,6,7],[1,3]),([8,7,6,0,1,2,3,4,5,6,7],[7,8])])
def federated_View.B6:List Nat:=[0,1,0,4,0,16,48,112,255,511]
theorem federated_View.tab6:rtab .any (opsOf Try.f41 6)=federated_View.T6:=by kernel_rfl
theorem federated_View.bits6:waitsOk federated_View.T6.2 federated_View.B6=true:=by kernel_rfl
def federated_View.T9:Bool × List (List Nat × List Nat):=(true,[([],[]),([0],[0]),([],[]),([],[]),([3],[3]),([4],[4]),([1,2,0,1,2,3,4,5],[1,2]),([6,5,4,0,1,2,3,4,5],[5,6])])
def federated_View.B9:List Nat:=[0,1,0,0,8,24,63,127]
theorem federated_View.tab9:rtab .any (opsOf Try.f41 9)=federated_View.T9:=by kernel_rfl
theorem federated_View.bits9:waitsOk federated_View.T9.2 federated_View.B9=true:=by kernel_rfl
set_option maxHeartbeats 8000000 in
set_option maxRecDepth 100000 in
theorem federated_View.calls (k:Nat) (a0:Int) (b9:Int) (d7:Option Addr) (d8:Nat) (b7:List Int) (d9:Option Addr) (e0:Nat) (b8:List (S30)) (A2:Option Addr) (c2:Nat) (l2:List (S72)) (r:List (S87)) (w:World) (r3:Kd.C (Kd.int .i64) w d7 b7.length b7) (r4:b7.length≤d8) (r5:Kd.C k30 w d9 b8.length b8) (r6:b8.length≤e0) (r7:Kd.C k72 w A2 l2.length l2) (r8:l2.length≤c2) (h:federated_View.f k a0 b9 b7 b8 l2=some r) :
  Calls Try.prog 41 #[.int .i64 a0,.agg #[.int .i64 b9,.slice d7 b7.length d8,.slice d9 b8.length e0],.slice A2 l2.length c2] w fun e w'=>∃ r9:Value,e = .returned (.agg #[r9])∧Kd.N k87 87 w' w.heap.size (fun k_=>(w.heap.size≤k_)) r9 r∧Below w.heap.size w w':=by
 have hu30:=Try.underlying30
 have hu53:=Try.underlying53
 have hu72:=Try.underlying72
 have hu87:=Try.underlying87
 have p1:=Aside0.mk r3
 have p2:=Aside0.mk r4
 clear r3 r4
 have p3:=Aside0.mk r5
 have p4:=Aside0.mk r6
 clear r5 r6
 have p5:=Aside0.mk r7
 have C8:=Aside0.mk r8
 clear r7 r8
 have HB:=Aside0.mk (Below.refl w.heap.size w)
 have H:(if 10≤4398046511104 then (federated_View.l0 k a0 l2 (l2.length:Int) 0 b9 b7 b8 (List.replicate 10 z87)) else (none))=some r:=h
 clear h
 by_cases c4:10≤4398046511104
 ·rw [if_pos c4] at H
  have x5:=eq_true c4
  have x6:decide (10≤4398046511104)=true:=decide_eq_true c4
  clear c4
  obtain ⟨n1,p6⟩:∃ y_:List (S87),y_=(List.replicate 10 z87):=⟨_,rfl⟩
  replace H:(federated_View.l0 k a0 l2 (l2.length:Int) 0 b9 b7 b8 n1)=some r:=rH p6 H
  have s8:=Aside0.mk p6
  clear p6
  have H':=Aside0.mk H
  clear H
  go_enter Try.func41,Try.ntmps41
  go_wp2_with (first|((with_reducible refine gate_dst (N:=4) rfl ?_);refine box_event ?hg (N:=4) ?hd (cs:=#[.int .i64 b9,.slice d7 b7.length d8,.slice d9 b8.length e0]) (t:=30) ?hr ?_;(case hd=>rfl);(case hg=>rfl);(case hr=>first|(go_simp;done)|(go_simp;rfl));intro b4 hg w5 hbox hb;refine ap4 (below_step (belowP HB) hb) (hbox) ((by rw [hg];exact (below_size (belowP HB)):w.heap.size≤b4)) ((by rw [hg];exact (below_size (belowP HB)):w.heap.size≤b4)) ?_;clear HB;intro HB a6 GW341 h0;clear hb hbox hg)|((with_reducible refine gate_dst (N:=6) rfl ?_);refine box_event ?hg (N:=6) ?hd (cs:=#[.slice none 0 0]) (t:=53) ?hr ?_;(case hd=>rfl);(case hg=>rfl);(case hr=>first|(go_simp;done)|(go_simp;rfl));intro b3 hg w6 hbox hb;refine ap7 (blk_below (blkP a6) hb) (below_step (belowP HB) hb) (hbox) ((by rw [hg];exact (below_size (belowP HB)):w.heap.size≤b3)) ((by rw [hg];exact (below_size (belowP HB)):w.heap.size≤b3)) ((by rw [hg];exact Nat.ne_of_lt (blk_lt (blkP a6)):b4≠b3)) ((by rw [hg];exact Nat.ne_of_gt (blk_lt (blkP a6)):b3≠b4)) ?_;clear a6 HB;intro a6 HB a9 GW342 h1 p7 p8;clear hb hbox hg)|((with_reducible refine gate_dst (N:=10) rfl ?_);refine Kd.N_make k87 _ 87 rfl (N':=10) rfl 51 _ _ rfl 10 rfl rfl Try.underlying51 (.agg #[(.bool false),(.int .i64 0),(.slice none 0 0),(.slice none 0 0)]) 64 info87 rfl (by decide) (by omega) z87 (ok:=fun k_=>w6.heap.size≤k_) (okp:=fun _=>False) (k87_mkF _ _ z87 (Nat.le_refl _) (Kd.F_nil _ _ _) (Nat.le_refl _) (Kd.F_nil _ _ _)) (fun _ hk=>hk.elim) (Nat.le_refl _) (by omega) (by omega) (Below.refl _ _) (Nat.le_refl _) ?_;intro C9 w7 k8 hb hg_ hnew_;clear hg_ hnew_;(first|rw [← s8.out] at k8|(simp only [Int.reduceToNat] at k8;rw [← s8.out] at k8));refine ap4 (Kd.N_lower (Kd.N_mono (ok':=fun k_=>(w.heap.size≤k_)∧k_≠b4∧k_≠b3) k8 (fun k_ hk_=>⟨(Nat.le_trans (below_size (belowP HB)) hk_),(Kd.freshB (blkP a6) k_ hk_),(Kd.freshB (blkP a9) k_ hk_)⟩)) (below_size (belowP HB))) (blk_below (blkP a6) hb) (blk_below (blkP a9) hb) (below_step (belowP HB) hb) ?_;clear a6 a9 HB;intro k9 a6 a9 HB;clear hb k8;obtain ⟨s9,t0,x7⟩:=Kd.N_slice k9.out;subst x7)|((with_reducible refine gate_dst (N:=7) rfl ?_);refine box_event ?hg (N:=7) ?hd (cs:=#[.slice none 0 0]) (t:=53) ?hr ?_;(case hd=>rfl);(case hg=>rfl);(case hr=>first|(go_simp;done)|(go_simp;rfl));intro b5 hg x8 hbox hb;refine ap11 (Kd.N_below (Kd.N_elderB (by (with_reducible repeat (first|apply Kd.N_alloc|apply Kd.N_drewN|apply Kd.N_drew));exact k9.out) b5 (Nat.le_of_eq hg.symm)) hb) (blk_below (blkP a6) hb) (blk_below (blkP a9) hb) (below_step (belowP HB) hb) (hbox) ((by rw [hg];exact (below_size (belowP HB)):w.heap.size≤b5)) ((by rw [hg];exact (below_size (belowP HB)):w.heap.size≤b5)) ((by rw [hg];exact Nat.ne_of_lt (blk_lt (blkP a6)):b4≠b5)) ((by rw [hg];exact Nat.ne_of_gt (blk_lt (blkP a6)):b5≠b4)) ((by rw [hg];exact Nat.ne_of_lt (blk_lt (blkP a9)):b3≠b5)) ((by rw [hg];exact Nat.ne_of_gt (blk_lt (blkP a9)):b5≠b3)) ?_;clear k9 a6 a9 HB;intro k9 a6 a9 HB b0 GW346 h2 l3 n2 l4 n3;clear hb hbox hg;have D0:=n2.out;have D1:=l3.out;have D2:=n3.out;have D3:=l4.out;have x9:x8.cell? ⟨b5,0,none⟩=some (.slice none 0 0):=(blk_cell b0.out 0).trans rfl;have y8:=blk_frozen b0.out 0))
  go_loopg [14] k (fun kq y9 w'=>∃ (a5:Int) (b2:List (S87)) (d2:Value),y9 = .int .i64 a5∧Aside0 (federated_View.l0 kq a0 l2 (l2.length:Int) a5 b9 b7 b8 b2=some r)∧Aside0 (kq≤k)∧Aside0 (Kd.N k87 87 w' w.heap.size (fun k_=>(w.heap.size≤k_)∧k_≠b4∧k_≠b3∧k_≠b5) d2 b2)∧Aside0 (w'.heap[b4]? = some (.cells #[.int .i64 b9,(.slice d7 b7.length d8),(.slice d9 b8.length e0)] 30 (0,0)))∧Aside0 (w'.heap[b3]? = some (.cells #[(.slice none 0 0)] 53 (0,0)))∧Aside0 (w'.heap[b5]? = some (.cells #[d2] 53 (0,0)))∧Aside0 (Below w.heap.size w w'))
  case atStart=>exact ⟨(0),(n1),(.slice s9 n1.length t0),tz3,H',⟨Nat.le_refl _⟩,⟨by (with_reducible repeat (first|apply Kd.N_alloc|apply Kd.N_drewN|apply Kd.N_drew));exact Kd.N_mono (Kd.N_far (p:=⟨b5,0,none⟩) (Kd.N_mono k9.out (fun k_ hk=>(⟨hk,hk.2⟩:_∧k_≠b5))) (fun _ hk=>hk.2) (.slice s9 n1.length t0)) (fun _ hk=>⟨hk.1.1.1,⟨hk.1.1.2.1,⟨hk.1.1.2.2,hk.1.2⟩⟩⟩)⟩,⟨by refine blkQ ?_;refine blk_far ?_ l3.out _;refine blkQ ?_;exact a6.out⟩,⟨by refine blkQ ?_;refine blk_far ?_ l4.out _;refine blkQ ?_;exact a9.out⟩,⟨by refine blkQ ?_;refine blk_put (cs:=#[.slice none 0 0]) ?_ 0 _ rfl;refine blkQ ?_;exact b0.out⟩,⟨by repeat (first|(with_reducible first|exact HB.out|apply below_alloc|apply pw_below_drewN|apply below_drew1|refine below_set ?_ h0.out|refine below_set ?_ h1.out|refine below_set ?_ h2.out)|exact HB.out)⟩⟩
  case round=>
   clear H'
   try clear c2
   try clear c4
   try clear x5
   try clear x6
   try clear x9
   try clear y8
   try clear a6
   try clear a9
   try clear b0
   try clear HB
   obtain ⟨a5,b2,d2,rfl,HA,k0,a7,a6,a9,b0,HB⟩:=hrel
   cases gk with
   | zero=>exact absurd HA.out (by simp [federated_View.l0])
   | succ k1=>
    have H:=HA.out
    clear HA
    simp only [federated_View.l0] at H
    by_cases k2:a5 < (l2.length:Int)
    ·rw [if_pos k2] at H
     have z0:decide (a5 < (l2.length:Int))=true:=decide_eq_true k2
     clear k2
     by_cases n4:0≤a5
     ·rw [if_pos n4] at H
      have D4:decide (0≤a5)=true:=decide_eq_true n4
      clear n4
      by_cases n5:a5 < (l2.length:Int)
      ·rw [if_pos n5] at H
       have D5:decide (a5 < (l2.length:Int))=true:=decide_eq_true n5
       clear n5
       by_cases i8:((rd_T72 l2 a5).f0)=a0
       ·rw [if_pos i8] at H
        have z1:(((rd_T72 l2 a5).f0) == a0)=true:=beq_iff_eq.mpr i8
        have z2:(((rd_T72 l2 a5).f0) != a0)=false:=bne_eq_false_iff_eq.mpr i8
        clear i8
        have H':=Aside0.mk H
        clear H
        have f8:0≤(a5:Int):=of_decide_eq_true tz2
        have f9:a5 < (l2.length:Int):=of_decide_eq_true tz2
        obtain ⟨t1,d4,d5,e1,e2,g7,g8,h3,h4,l5,g0,g1,g2,g3,g4,g5,g6,h5,h6,h7,h8,h9,i0,i1,i2⟩:=at_T72 p5.out a5 f8 f9
        cases l5
        replace g0:=(HB.out.cell (World.block_lt_of_cell? w _ g0)).trans g0
        replace g1:=(HB.out.cell (World.block_lt_of_cell? w _ g1)).trans g1
        replace g2:=(HB.out.cell (World.block_lt_of_cell? w _ g2)).trans g2
        replace g3:=(HB.out.cell (World.block_lt_of_cell? w _ g3)).trans g3
        replace g4:=(HB.out.cell (World.block_lt_of_cell? w _ g4)).trans g4
        replace g5:=(HB.out.cell (World.block_lt_of_cell? w _ g5)).trans g5
        replace g6:=(HB.out.cell (World.block_lt_of_cell? w _ g6)).trans g6
        have l6:=Aside0.mk h6
        have l7:=Aside0.mk h5
        clear h6 h5
        have l8:=Aside0.mk h8
        have l9:=Aside0.mk h7
        clear h8 h7
        have n6:=Aside0.mk i0
        have n7:=Aside0.mk h9
        clear i0 h9
        have n8:=Aside0.mk i2
        have n9:=Aside0.mk i1
        clear i2 i1
        replace f8:=eq_true f8
        replace f9:=eq_true f9
        go_wp2_with (first|((with_reducible refine gate_dst (N:=9) rfl ?_);refine box_event ?hg (N:=9) ?hd (cs:=#[.int .i64 0,.int .i64 0,.int .i64 0,.slice none 0 0,.slice none 0 0,.slice none 0 0,.slice none 0 0]) (t:=72) ?hr ?_;(case hd=>rfl);(case hg=>rfl);(case hr=>first|(go_simp;done)|(go_simp;rfl));intro a8 hg i9 hbox hb;refine ap14 (Kd.N_below (Kd.N_elderB (by (with_reducible repeat (first|apply Kd.N_alloc|apply Kd.N_drewN|apply Kd.N_drew));exact a7.out) a8 (Nat.le_of_eq hg.symm)) hb) (blk_below (blkP a6) hb) (blk_below (blkP a9) hb) (blk_below (blkP b0) hb) (below_step (belowP HB) hb) (hbox) ((by rw [hg];exact (below_size (belowP HB)):w.heap.size≤a8)) ((by rw [hg];exact (below_size (belowP HB)):w.heap.size≤a8)) ((by rw [hg];exact Nat.ne_of_lt (blk_lt (blkP a6)):b4≠a8)) ((by rw [hg];exact Nat.ne_of_gt (blk_lt (blkP a6)):a8≠b4)) ((by rw [hg];exact Nat.ne_of_lt (blk_lt (blkP a9)):b3≠a8)) ((by rw [hg];exact Nat.ne_of_gt (blk_lt (blkP a9)):a8≠b3)) ((by rw [hg];exact Nat.ne_of_lt (blk_lt (blkP b0)):b5≠a8)) ((by rw [hg];exact Nat.ne_of_gt (blk_lt (blkP b0)):a8≠b5)) ?_;clear a7 a6 a9 b0 HB;intro a7 a6 a9 b0 HB b1 GW348 m0 c0 m1 c1 m2 d0 m3;clear hb hbox hg;have D6:=m1.out;have D7:=c0.out;have D8:=m2.out;have D9:=c1.out;have E0:=m3.out;have E1:=d0.out;have E2:i9.cell? ⟨a8,0,none⟩=some (.int .i64 0):=(blk_cell b1.out 0).trans rfl;have E3:i9.cell? ⟨a8,1,none⟩=some (.int .i64 0):=(blk_cell b1.out 1).trans rfl;have E4:i9.cell? ⟨a8,2,none⟩=some (.int .i64 0):=(blk_cell b1.out 2).trans rfl;have E5:i9.cell? ⟨a8,3,none⟩=some (.slice none 0 0):=(blk_cell b1.out 3).trans rfl;have E6:i9.cell? ⟨a8,4,none⟩=some (.slice none 0 0):=(blk_cell b1.out 4).trans rfl;have E7:i9.cell? ⟨a8,5,none⟩=some (.slice none 0 0):=(blk_cell b1.out 5).trans rfl;have E8:i9.cell? ⟨a8,6,none⟩=some (.slice none 0 0):=(blk_cell b1.out 6).trans rfl;have E9:=blk_frozen b1.out 0;have F0:=blk_frozen b1.out 1;have F1:=blk_frozen b1.out 2;have F2:=blk_frozen b1.out 3;have F3:=blk_frozen b1.out 4;have F4:=blk_frozen b1.out 5;have F5:=blk_frozen b1.out 6))
        go_roundg k1
        case measure=>have:=k0.out;omega
        case rel=>exact ⟨(wrap64 (a5 + 1)),(b2),(d2),tz3,H',⟨by have:=k0.out;omega⟩,⟨by (with_reducible repeat (first|apply Kd.N_alloc|apply Kd.N_drewN|apply Kd.N_drew));exact Kd.N_mono (Kd.N_far (p:=⟨a8,6,none⟩) (Kd.N_far (p:=⟨a8,5,none⟩) (Kd.N_far (p:=⟨a8,4,none⟩) (Kd.N_far (p:=⟨a8,3,none⟩) (Kd.N_far (p:=⟨a8,2,none⟩) (Kd.N_far (p:=⟨a8,1,none⟩) (Kd.N_far (p:=⟨a8,0,none⟩) (Kd.N_mono a7.out (fun k_ hk=>(⟨hk,hk.2⟩:_∧k_≠a8))) (fun _ hk=>hk.2) (.int .i64 ((rd_T72 l2 a5).f0))) (fun _ hk=>hk.2) (.int .i64 ((rd_T72 l2 a5).f1))) (fun _ hk=>hk.2) (.int .i64 ((rd_T72 l2 a5).f2.f0))) (fun _ hk=>hk.2) (.slice d4 ((rd_T72 l2 a5).f2.f1).length d5)) (fun _ hk=>hk.2) (.slice e1 ((rd_T72 l2 a5).f2.f2).length e2)) (fun _ hk=>hk.2) (.slice g7 ((rd_T72 l2 a5).f3).length g8)) (fun _ hk=>hk.2) (.slice h3 ((rd_T72 l2 a5).f4).length h4)) (fun _ hk=>⟨hk.1.1.1,⟨hk.1.1.2.1,⟨hk.1.1.2.2.1,hk.1.1.2.2.2⟩⟩⟩)⟩,⟨by refine blkQ ?_;refine blk_far ?_ c0.out _;refine blkQ ?_;refine blk_far ?_ c0.out _;refine blkQ ?_;refine blk_far ?_ c0.out _;refine blkQ ?_;refine blk_far ?_ c0.out _;refine blkQ ?_;refine blk_far ?_ c0.out _;refine blkQ ?_;refine blk_far ?_ c0.out _;refine blkQ ?_;refine blk_far ?_ c0.out _;refine blkQ ?_;exact a6.out⟩,⟨by refine blkQ ?_;refine blk_far ?_ c1.out _;refine blkQ ?_;refine blk_far ?_ c1.out _;refine blkQ ?_;refine blk_far ?_ c1.out _;refine blkQ ?_;refine blk_far ?_ c1.out _;refine blkQ ?_;refine blk_far ?_ c1.out _;refine blkQ ?_;refine blk_far ?_ c1.out _;refine blkQ ?_;refine blk_far ?_ c1.out _;refine blkQ ?_;exact a9.out⟩,⟨by refine blkQ ?_;refine blk_far ?_ d0.out _;refine blkQ ?_;refine blk_far ?_ d0.out _;refine blkQ ?_;refine blk_far ?_ d0.out _;refine blkQ ?_;refine blk_far ?_ d0.out _;refine blkQ ?_;refine blk_far ?_ d0.out _;refine blkQ ?_;refine blk_far ?_ d0.out _;refine blkQ ?_;refine blk_far ?_ d0.out _;refine blkQ ?_;exact b0.out⟩,⟨by repeat (first|(with_reducible first|exact HB.out|apply below_alloc|apply pw_below_drewN|apply below_drew1|refine below_set ?_ h0.out|refine below_set ?_ h1.out|refine below_set ?_ h2.out|refine below_set ?_ m0.out)|exact HB.out)⟩⟩
       ·rw [if_neg i8] at H
        have z1:(((rd_T72 l2 a5).f0) == a0)=false:=beq_eq_false_iff_ne.mpr i8
        have z2:(((rd_T72 l2 a5).f0) != a0)=true:=bne_iff_ne.mpr i8
        replace H:=Option.bind_eq_some_iff.mp H
        obtain ⟨m9,t2,H⟩:=H
        replace H:(if m9=true then ((federated_copied.f k1 ((rd_T72 l2 a5).f2.f0) ((rd_T72 l2 a5).f2.f1) ((rd_T72 l2 a5).f2.f2)).bind fun i7=>(if 0≤((rd_T72 l2 a5).f0) then (if ((rd_T72 l2 a5).f0) < (b2.length:Int) then (federated_View.l0 k1 a0 l2 (l2.length:Int) (wrap64 (a5 + 1)) b9 b7 b8 (b2.set (((rd_T72 l2 a5).f0):Int).toNat (⟨true,(⟨i7.1,i7.2.1,i7.2.2⟩:S30)⟩:S87))) else (none)) else (none))) else (federated_View.l0 k1 a0 l2 (l2.length:Int) (wrap64 (a5 + 1)) b9 b7 b8 b2))=some r:=H
        have t3:=Aside0.mk t2
        clear t2
        by_cases o0:m9=true
        ·subst o0
         rw [if_pos rfl] at H
         replace H:=Option.bind_eq_some_iff.mp H
         obtain ⟨⟨k3,j2,j3⟩,t4,H⟩:=H
         replace H:(if 0≤((rd_T72 l2 a5).f0) then (if ((rd_T72 l2 a5).f0) < (b2.length:Int) then (federated_View.l0 k1 a0 l2 (l2.length:Int) (wrap64 (a5 + 1)) b9 b7 b8 (b2.set (((rd_T72 l2 a5).f0):Int).toNat (⟨true,(⟨k3,j2,j3⟩:S30)⟩:S87))) else (none)) else (none))=some r:=H
         have z3:=Aside0.mk t4
         clear t4
         by_cases o1:0≤((rd_T72 l2 a5).f0)
         ·rw [if_pos o1] at H
          have F6:decide (0≤((rd_T72 l2 a5).f0))=true:=decide_eq_true o1
          clear o1
          by_cases o2:((rd_T72 l2 a5).f0) < (b2.length:Int)
          ·rw [if_pos o2] at H
           have F7:decide (((rd_T72 l2 a5).f0) < (b2.length:Int))=true:=decide_eq_true o2
           clear o2
           obtain ⟨t5,p9⟩:∃ y_:List (S87),y_=(b2.set (((rd_T72 l2 a5).f0):Int).toNat (⟨true,(⟨k3,j2,j3⟩:S30)⟩:S87)):=⟨_,rfl⟩
           replace H:(federated_View.l0 k1 a0 l2 (l2.length:Int) (wrap64 (a5 + 1)) b9 b7 b8 t5)=some r:=rH p9 H
           have z4:=Aside0.mk p9
           clear p9
           have H':=Aside0.mk H
           clear H
           have f8:0≤(a5:Int):=of_decide_eq_true tz2
           have f9:a5 < (l2.length:Int):=of_decide_eq_true tz2
           obtain ⟨t1,d4,d5,e1,e2,g7,g8,h3,h4,l5,g0,g1,g2,g3,g4,g5,g6,h5,h6,h7,h8,h9,i0,i1,i2⟩:=at_T72 p5.out a5 f8 f9
           cases l5
           replace g0:=(HB.out.cell (World.block_lt_of_cell? w _ g0)).trans g0
           replace g1:=(HB.out.cell (World.block_lt_of_cell? w _ g1)).trans g1
           replace g2:=(HB.out.cell (World.block_lt_of_cell? w _ g2)).trans g2
           replace g3:=(HB.out.cell (World.block_lt_of_cell? w _ g3)).trans g3
           replace g4:=(HB.out.cell (World.block_lt_of_cell? w _ g4)).trans g4
           replace g5:=(HB.out.cell (World.block_lt_of_cell? w _ g5)).trans g5
           replace g6:=(HB.out.cell (World.block_lt_of_cell? w _ g6)).trans g6
           have l6:=Aside0.mk h6
           have l7:=Aside0.mk h5
           clear h6 h5
           have l8:=Aside0.mk h8
           have l9:=Aside0.mk h7
           clear h8 h7
           have n6:=Aside0.mk i0
           have n7:=Aside0.mk h9
           clear i0 h9
           have n8:=Aside0.mk i2
           have n9:=Aside0.mk i1
           clear i2 i1
           replace f8:=eq_true f8
           replace f9:=eq_true f9
           try go_wp2_with (first|((with_reducible refine gate_dst (N:=9) rfl ?_);refine box_event ?hg (N:=9) ?hd (cs:=#[.int .i64 0,.int .i64 0,.int .i64 0,.slice none 0 0,.slice none 0 0,.slice none 0 0,.slice none 0 0]) (t:=72) ?hr ?_;(case hd=>rfl);(case hg=>rfl);(case hr=>first|(go_simp;done)|(go_simp;rfl));intro a8 hg j4 hbox hb;refine ap14 (Kd.N_below (Kd.N_elderB (by (with_reducible repeat (first|apply Kd.N_alloc|apply Kd.N_drewN|apply Kd.N_drew));exact a7.out) a8 (Nat.le_of_eq hg.symm)) hb) (blk_below (blkP a6) hb) (blk_below (blkP a9) hb) (blk_below (blkP b0) hb) (below_step (belowP HB) hb) (hbox) ((by rw [hg];exact (below_size (belowP HB)):w.heap.size≤a8)) ((by rw [hg];exact (below_size (belowP HB)):w.heap.size≤a8)) ((by rw [hg];exact Nat.ne_of_lt (blk_lt (blkP a6)):b4≠a8)) ((by rw [hg];exact Nat.ne_of_gt (blk_lt (blkP a6)):a8≠b4)) ((by rw [hg];exact Nat.ne_of_lt (blk_lt (blkP a9)):b3≠a8)) ((by rw [hg];exact Nat.ne_of_gt (blk_lt (blkP a9)):a8≠b3)) ((by rw [hg];exact Nat.ne_of_lt (blk_lt (blkP b0)):b5≠a8)) ((by rw [hg];exact Nat.ne_of_gt (blk_lt (blkP b0)):a8≠b5)) ?_;clear a7 a6 a9 b0 HB;intro a7 a6 a9 b0 HB b1 GW348 m0 c0 m1 c1 m2 d0 m3;clear hb hbox hg;have F8:=m1.out;have F9:=c0.out;have G0:=m2.out;have G1:=c1.out;have G2:=m3.out;have G3:=d0.out;have G4:j4.cell? ⟨a8,0,none⟩=some (.int .i64 0):=(blk_cell b1.out 0).trans rfl;have G5:j4.cell? ⟨a8,1,none⟩=some (.int .i64 0):=(blk_cell b1.out 1).trans rfl;have G6:j4.cell? ⟨a8,2,none⟩=some (.int .i64 0):=(blk_cell b1.out 2).trans rfl;have G7:j4.cell? ⟨a8,3,none⟩=some (.slice none 0 0):=(blk_cell b1.out 3).trans rfl;have G8:j4.cell? ⟨a8,4,none⟩=some (.slice none 0 0):=(blk_cell b1.out 4).trans rfl;have G9:j4.cell? ⟨a8,5,none⟩=some (.slice none 0 0):=(blk_cell b1.out 5).trans rfl;have H0:j4.cell? ⟨a8,6,none⟩=some (.slice none 0 0):=(blk_cell b1.out 6).trans rfl;have H1:=blk_frozen b1.out 0;have H2:=blk_frozen b1.out 1;have H3:=blk_frozen b1.out 2;have H4:=blk_frozen b1.out 3;have H5:=blk_frozen b1.out 4;have H6:=blk_frozen b1.out 5;have H7:=blk_frozen b1.out 6)|(go_at_call 53;(with_reducible refine (federated_Plain.calls k1 ((rd_T72 l2 a5).f0) ((rd_T72 l2 a5).f1) ((rd_T72 l2 a5).f2.f0) _ _ ((rd_T72 l2 a5).f2.f1) _ _ ((rd_T72 l2 a5).f2.f2) _ _ ((rd_T72 l2 a5).f3) _ _ ((rd_T72 l2 a5).f4) true _ ?side1 ?side2 ?side3 ?side4 ?side5 ?side6 ?side7 ?side8 t3.out).mono ?_);(case side1=>exact Kd.C_below l6.out (belowP HB));(case side2=>exact l7.out);(case side3=>exact Kd.C_below l8.out (belowP HB));(case side4=>exact l9.out);(case side5=>exact Kd.C_below n6.out (belowP HB));(case side6=>exact n7.out);(case side7=>exact Kd.C_below n8.out (belowP HB));(case side8=>exact n9.out);rintro e z5 ⟨rfl,hb⟩;refine ap6 (Kd.N_below (by (with_reducible repeat (first|apply Kd.N_alloc|apply Kd.N_drewN|apply Kd.N_drew));exact (Kd.N_mono (Kd.N_far (p:=⟨a8,6,none⟩) (Kd.N_far (p:=⟨a8,5,none⟩) (Kd.N_far (p:=⟨a8,4,none⟩) (Kd.N_far (p:=⟨a8,3,none⟩) (Kd.N_far (p:=⟨a8,2,none⟩) (Kd.N_far (p:=⟨a8,1,none⟩) (Kd.N_far (p:=⟨a8,0,none⟩) (Kd.N_mono a7.out (fun k_ hk=>(⟨hk,hk.2⟩:_∧k_≠a8))) (fun _ hk=>hk.2) (.int .i64 ((rd_T72 l2 a5).f0))) (fun _ hk=>hk.2) (.int .i64 ((rd_T72 l2 a5).f1))) (fun _ hk=>hk.2) (.int .i64 ((rd_T72 l2 a5).f2.f0))) (fun _ hk=>hk.2) (.slice d4 ((rd_T72 l2 a5).f2.f1).length d5)) (fun _ hk=>hk.2) (.slice e1 ((rd_T72 l2 a5).f2.f2).length e2)) (fun _ hk=>hk.2) (.slice g7 ((rd_T72 l2 a5).f3).length g8)) (fun _ hk=>hk.2) (.slice h3 ((rd_T72 l2 a5).f4).length h4)) (fun _ h_=>h_.1))) hb) (blk_below (g:=b4) (o:=.cells #[.int .i64 b9,.slice d7 b7.length d8,.slice d9 b8.length e0] 30 (0,0)) (by refine blkQ ?_;refine blk_far ?_ c0.out _;refine blkQ ?_;refine blk_far ?_ c0.out _;refine blkQ ?_;refine blk_far ?_ c0.out _;refine blkQ ?_;refine blk_far ?_ c0.out _;refine blkQ ?_;refine blk_far ?_ c0.out _;refine blkQ ?_;refine blk_far ?_ c0.out _;refine blkQ ?_;refine blk_far ?_ c0.out _;refine blkQ ?_;exact a6.out) hb) (blk_below (g:=b3) (o:=.cells #[.slice none 0 0] 53 (0,0)) (by refine blkQ ?_;refine blk_far ?_ c1.out _;refine blkQ ?_;refine blk_far ?_ c1.out _;refine blkQ ?_;refine blk_far ?_ c1.out _;refine blkQ ?_;refine blk_far ?_ c1.out _;refine blkQ ?_;refine blk_far ?_ c1.out _;refine blkQ ?_;refine blk_far ?_ c1.out _;refine blkQ ?_;refine blk_far ?_ c1.out _;refine blkQ ?_;exact a9.out) hb) (blk_below (g:=b5) (o:=.cells #[d2] 53 (0,0)) (by refine blkQ ?_;refine blk_far ?_ d0.out _;refine blkQ ?_;refine blk_far ?_ d0.out _;refine blkQ ?_;refine blk_far ?_ d0.out _;refine blkQ ?_;refine blk_far ?_ d0.out _;refine blkQ ?_;refine blk_far ?_ d0.out _;refine blkQ ?_;refine blk_far ?_ d0.out _;refine blkQ ?_;refine blk_far ?_ d0.out _;refine blkQ ?_;exact b0.out) hb) (blk_below (g:=a8) (o:=.cells #[.int .i64 ((rd_T72 l2 a5).f0),.int .i64 ((rd_T72 l2 a5).f1),.int .i64 ((rd_T72 l2 a5).f2.f0),.slice d4 ((rd_T72 l2 a5).f2.f1).length d5,.slice e1 ((rd_T72 l2 a5).f2.f2).length e2,.slice g7 ((rd_T72 l2 a5).f3).length g8,.slice h3 ((rd_T72 l2 a5).f4).length h4] 72 (0,0)) (by refine blkQ ?_;refine blk_put (cs:=#[.int .i64 ((rd_T72 l2 a5).f0),.int .i64 ((rd_T72 l2 a5).f1),.int .i64 ((rd_T72 l2 a5).f2.f0),.slice d4 ((rd_T72 l2 a5).f2.f1).length d5,.slice e1 ((rd_T72 l2 a5).f2.f2).length e2,.slice g7 ((rd_T72 l2 a5).f3).length g8,.slice none 0 0]) ?_ 6 _ rfl;refine blkQ ?_;refine blk_put (cs:=#[.int .i64 ((rd_T72 l2 a5).f0),.int .i64 ((rd_T72 l2 a5).f1),.int .i64 ((rd_T72 l2 a5).f2.f0),.slice d4 ((rd_T72 l2 a5).f2.f1).length d5,.slice e1 ((rd_T72 l2 a5).f2.f2).length e2,.slice none 0 0,.slice none 0 0]) ?_ 5 _ rfl;refine blkQ ?_;refine blk_put (cs:=#[.int .i64 ((rd_T72 l2 a5).f0),.int .i64 ((rd_T72 l2 a5).f1),.int .i64 ((rd_T72 l2 a5).f2.f0),.slice d4 ((rd_T72 l2 a5).f2.f1).length d5,.slice none 0 0,.slice none 0 0,.slice none 0 0]) ?_ 4 _ rfl;refine blkQ ?_;refine blk_put (cs:=#[.int .i64 ((rd_T72 l2 a5).f0),.int .i64 ((rd_T72 l2 a5).f1),.int .i64 ((rd_T72 l2 a5).f2.f0),.slice none 0 0,.slice none 0 0,.slice none 0 0,.slice none 0 0]) ?_ 3 _ rfl;refine blkQ ?_;refine blk_put (cs:=#[.int .i64 ((rd_T72 l2 a5).f0),.int .i64 ((rd_T72 l2 a5).f1),.int .i64 0,.slice none 0 0,.slice none 0 0,.slice none 0 0,.slice none 0 0]) ?_ 2 _ rfl;refine blkQ ?_;refine blk_put (cs:=#[.int .i64 ((rd_T72 l2 a5).f0),.int .i64 0,.int .i64 0,.slice none 0 0,.slice none 0 0,.slice none 0 0,.slice none 0 0]) ?_ 1 _ rfl;refine blkQ ?_;refine blk_put (cs:=#[.int .i64 0,.int .i64 0,.int .i64 0,.slice none 0 0,.slice none 0 0,.slice none 0 0,.slice none 0 0]) ?_ 0 _ rfl;refine blkQ ?_;exact b1.out) hb) (below_step (belowP HB) hb) ?_;clear a7 a6 a9 b0 b1 HB;intro a7 a6 a9 b0 b1 HB))
           refine ap6 (Kd.N_drew a7.out) (blk_drew a6.out) (blk_drew a9.out) (blk_drew b0.out) (blk_drew b1.out) (below_drew1 HB.out) ?_
           clear a7 a6 a9 b0 b1 HB
           intro a7 a6 a9 b0 b1 HB
           refine start_ (n:=10) (S:=fun w'=>w'.cell? ⟨b5,0,none⟩=some (d2)∧w'.cell? ⟨a8,0,none⟩=some (.int .i64 ((rd_T72 l2 a5).f0))∧w'.cell? ⟨a8,1,none⟩=some (.int .i64 ((rd_T72 l2 a5).f1))∧w'.cell? ⟨a8,2,none⟩=some (.int .i64 ((rd_T72 l2 a5).f2.f0))∧w'.cell? ⟨a8,3,none⟩=some (.slice d4 ((rd_T72 l2 a5).f2.f1).length d5)∧w'.cell? ⟨a8,4,none⟩=some (.slice e1 ((rd_T72 l2 a5).f2.f2).length e2)∧w'.cell? ⟨a8,5,none⟩=some (.slice g7 ((rd_T72 l2 a5).f3).length g8)∧w'.cell? ⟨a8,6,none⟩=some (.slice h3 ((rd_T72 l2 a5).f4).length h4)) (ds:=[9]) #[false,false,false,false,false,false,false,false,false,false] (by kernel_rfl) rfl rfl ⟨(blk_cell b0.out 0).trans rfl,(blk_cell b1.out 0).trans rfl,(blk_cell b1.out 1).trans rfl,(blk_cell b1.out 2).trans rfl,(blk_cell b1.out 3).trans rfl,(blk_cell b1.out 4).trans rfl,(blk_cell b1.out 5).trans rfl,(blk_cell b1.out 6).trans rfl⟩ (fun hHeld=>?_);refine with_tabW federated_View.tab6 federated_View.bits6 (fun HT_ HW_=>?_)
           generalize z5.drew=H8 at a7 a6 a9 b0 b1 HB hHeld ⊢
           refine pure_ (i:=0) (N:=some 26) #[true,false,false,false,false,false,false,false,false,false] rfl rfl (any_of HT_.out (by kernel_rfl)) (fun _ _ _ h=>h) (Or.inl ⟨by rfl,tz4⟩) tz1 ?_
           refine pure_ (i:=2) (N:=some 28) #[true,false,true,false,false,false,false,false,false,false] rfl rfl (any_of HT_.out (by kernel_rfl)) (fun _ _ _ h=>h) (Or.inl ⟨by rfl,tz4⟩) tz1 ?_
           refine pure_ (i:=4) (N:=some 30) #[true,false,true,false,true,false,false,false,false,false] rfl rfl (any_of HT_.out (by kernel_rfl)) (fun _ _ _ h=>h) (Or.inl ⟨by rfl,tz4⟩) tz1 ?_
           refine take_ (i:=1) (N:=some 27) #[true,true,true,false,true,false,false,false,false,false] rfl rfl (take_ofW HT_.out HW_.out (by kernel_rfl)) (fun _ _ _ h=>h) (Or.inl ⟨by rfl,(by rintro w' ⟨s0,s1,s2,s3,s4,s5,s6,s7⟩;go_simp;with_reducible rfl)⟩) hHeld tz1 ?_
           refine take_ (i:=3) (N:=some 29) #[true,true,true,true,true,false,false,false,false,false] rfl rfl (take_ofW HT_.out HW_.out (by kernel_rfl)) (fun _ _ _ h=>h) (Or.inl ⟨by rfl,(by rintro w' ⟨s0,s1,s2,s3,s4,s5,s6,s7⟩;go_simp;with_reducible rfl)⟩) hHeld tz1 ?_
           refine take_ (i:=5) (N:=some 31) #[true,true,true,true,true,true,false,false,false,false] rfl rfl (take_ofW HT_.out HW_.out (by kernel_rfl)) (fun _ _ _ h=>h) (Or.inl ⟨by rfl,(by rintro w' ⟨s0,s1,s2,s3,s4,s5,s6,s7⟩;go_simp;with_reducible rfl)⟩) hHeld tz1 ?_
           refine one_ (i:=6) (N:=some 32) #[true,true,true,true,true,true,true,false,false,false] rfl rfl (one_of HT_.out (by kernel_rfl)) (by decide) (fun K hK=>?_)
           refine goes_ Try.func54 (by kernel_rfl) rfl #[.agg #[.int .i64 ((rd_T72 l2 a5).f2.f0),.slice d4 ((rd_T72 l2 a5).f2.f1).length d5,.slice e1 ((rd_T72 l2 a5).f2.f2).length e2]] (by rfl) rfl rfl tz0 ?_
           with_reducible refine (federated_copied.calls k1 ((rd_T72 l2 a5).f2.f0) _ _ ((rd_T72 l2 a5).f2.f1) _ _ ((rd_T72 l2 a5).f2.f2) k3 j2 j3 _ ?side1 ?side2 ?side3 ?side4 z3.out).mono ?_
           (case side1=>exact Kd.C_q (Kd.C_below l6.out HB.out))
           (case side2=>exact l7.out)
           (case side3=>exact Kd.C_q (Kd.C_below l8.out HB.out))
           (case side4=>exact l9.out)
           rintro e H9 ⟨z6,I0,rfl,j5,j6,hb⟩
           refine ⟨_,rfl,?_⟩
           refine ap8 (Kd.N_mono (Kd.N_told (Kd.N_told (Kd.N_old (by (with_reducible repeat (first|apply Kd.N_alloc|apply Kd.N_drewN|apply Kd.N_drew));exact a7.out) hb) (Kd.R_base j5)) (Kd.R_base j6)) (fun _ h_=>h_.1)) (Kd.R_lower (Kd.R_newM (M:=fun k_=>(w.heap.size≤k_)) j5 (below_size (belowP HB)) (fun k_ h_=>h_)) (below_size (belowP HB))) (Kd.N_lower (Kd.N_mono (ok':=fun k_=>(w.heap.size≤k_)∧some k_≠(z6:Value).ownBlock∧some k_≠(d2:Value).ownBlock∧k_≠b4∧k_≠b3∧k_≠b5∧k_≠a8) (Kd.R_N (Kd.R_bound j6)) (fun k_ hk_=>⟨(Nat.le_trans (below_size (belowP HB)) hk_.2.1),hk_.1,(Kd.fresh' (Kd.N_lt (by (with_reducible repeat (first|apply Kd.N_alloc|apply Kd.N_drewN|apply Kd.N_drew));exact a7.out)) k_ hk_.2.1),(Kd.freshB (blkP a6) k_ hk_.2.1),(Kd.freshB (blkP a9) k_ hk_.2.1),(Kd.freshB (blkP b0) k_ hk_.2.1),(Kd.freshB (blkP b1) k_ hk_.2.1)⟩)) (below_size (belowP HB))) (blk_below (blkP a6) hb) (blk_below (blkP a9) hb) (blk_below (blkP b0) hb) (blk_below (blkP b1) hb) (below_step (belowP HB) hb) ?_
           clear a7 a6 a9 b0 b1 HB
           intro a7 q0 q1 a6 a9 b0 b1 HB
           (try clear hb)
           (try clear hb2)
           (try clear hk)
           (try clear hi)
           (try clear j5)
           (try clear j6)
           obtain ⟨t6,t7,t8⟩:=Kd.N_slice q1.out
           (first|subst t8|(injection t8 with f1_ f2_ f3_;have f4_:=f1_.symm;have f5_:=f3_.symm;clear f1_ f2_ f3_;subst f4_;subst f5_))
           obtain ⟨t9,u0,u1⟩:=Kd.R_slice q0.out
           (first|subst u1|(injection u1 with f1_ f2_ f3_;have f4_:=f1_.symm;have f5_:=f3_.symm;clear f1_ f2_ f3_;subst f4_;subst f5_))
           have q2:0≤(((rd_T72 l2 a5).f0):Int):=of_decide_eq_true tz2
           have q3:(((rd_T72 l2 a5).f0):Int) < ((b2.length:Int):Int):=of_decide_eq_true tz2
           obtain ⟨d6,q4,u2,u3,gl28,I1,u4⟩:=Kd.N_form a7.out (by omega)
           (first|cases u2|(injection u2 with ea_ en_ ec_;(first|subst ea_|(injection ea_ with ea_;subst ea_));subst ec_;clear en_))
           have o3:=Aside0.mk u3
           have I2:=Aside0.mk u4
           clear u3 gl28 u4
           obtain ⟨I3,z7,u5,m4,m5⟩:=Kd.N_elem a7.out z87 (((rd_T72 l2 a5).f0):Int) q2 q3
           obtain ⟨z8,z9,A0,A1,rfl,I4,I5,I6,I7⟩:=k87_openF u5
           have I8:World.cell? _ ⟨d6,(((rd_T72 l2 a5).f0):Int).toNat * 4,none⟩=some (.bool ((rd_T87 b2 ((rd_T72 l2 a5).f0)).f0)):=m4 0 _ rfl
           have I9:World.cell? _ ⟨d6,(((rd_T72 l2 a5).f0):Int).toNat * 4 + 1,none⟩=some (.int .i64 ((rd_T87 b2 ((rd_T72 l2 a5).f0)).f1.f0)):=m4 1 _ rfl
           have J0:World.cell? _ ⟨d6,(((rd_T72 l2 a5).f0):Int).toNat * 4 + 2,none⟩=some (.slice z8 ((rd_T87 b2 ((rd_T72 l2 a5).f0)).f1.f1).length z9):=m4 2 _ rfl
           have J1:World.cell? _ ⟨d6,(((rd_T72 l2 a5).f0):Int).toNat * 4 + 3,none⟩=some (.slice A0 ((rd_T87 b2 ((rd_T72 l2 a5).f0)).f1.f2).length A1):=m4 3 _ rfl
           have J2:World.frozen? _ ⟨d6,(((rd_T72 l2 a5).f0):Int).toNat * 4,none⟩=false:=m5 0
           have J3:World.frozen? _ ⟨d6,(((rd_T72 l2 a5).f0):Int).toNat * 4 + 1,none⟩=false:=m5 1
           have J4:World.frozen? _ ⟨d6,(((rd_T72 l2 a5).f0):Int).toNat * 4 + 2,none⟩=false:=m5 2
           have J5:World.frozen? _ ⟨d6,(((rd_T72 l2 a5).f0):Int).toNat * 4 + 3,none⟩=false:=m5 3
           clear z7 m4 m5 u5
           replace q2:=eq_true q2
           replace q3:=eq_true q3
           have o4:=Aside0.mk (show Kd.N k87 87 _ w.heap.size (fun k_=>(w.heap.size≤k_)∧some k_≠(.slice t9 j2.length u0:Value).ownBlock∧some k_≠(.slice t6 j3.length t7:Value).ownBlock∧k_≠b4∧k_≠b3∧k_≠b5∧k_≠a8) (.slice (some ⟨d6,0,none⟩) b2.length q4) b2 from (Kd.N_mono (a7.out) (fun k_ hk=>⟨hk.1.1.1.1,⟨hk.1.2,⟨hk.2,⟨hk.1.1.1.2.1,⟨hk.1.1.1.2.2.1,⟨hk.1.1.1.2.2.2,hk.1.1.2⟩⟩⟩⟩⟩⟩)))
           replace o4:=Aside0.mk (show Kd.N k87 87 _ w.heap.size (fun k_=>(w.heap.size≤k_)∧k_≠b4∧k_≠b3∧k_≠b5∧k_≠a8) (.slice (some ⟨d6,0,none⟩) b2.length q4) b2 from Kd.N_mono o4.out (fun k_ hk=>⟨hk.1,⟨hk.2.2.2.1,⟨hk.2.2.2.2.1,⟨hk.2.2.2.2.2.1,hk.2.2.2.2.2.2⟩⟩⟩⟩))
           obtain ⟨J6,u6,u7,u9,A3⟩:=Kd.N_elem o4.out z87 (((rd_T72 l2 a5).f0):Int) (of_decide_eq_true tz2) (by have h_:(((rd_T72 l2 a5).f0):Int) < ((b2.length:Int):Int):=of_decide_eq_true tz2;first|exact h_|(have e_:=(Kd.N_reads' a7.out).1;omega)|simpa using h_)
           obtain ⟨J7,J8,J9,K0,rfl,K1,K2,K3,K4⟩:=k87_openF u7
           have q5:=(Kd.N_seg o4.out (((rd_T72 l2 a5).f0):Int) (of_decide_eq_true tz2) (by have h_:(((rd_T72 l2 a5).f0):Int) < ((b2.length:Int):Int):=of_decide_eq_true tz2;first|exact h_|(have e_:=(Kd.N_reads' a7.out).1;omega)|simpa using h_) (seg:=[.bool true,.int .i64 k3,.slice t9 j2.length u0,.slice t6 j3.length t7]) (j:=0) u6 u9 (show 4≤4 from by decide) (x':=(⟨true,(⟨k3,j2,j3⟩:S30)⟩:S87)) (k87_mkF _ _ (⟨true,(⟨k3,j2,j3⟩:S30)⟩:S87) (Kd.R_reads' (Kd.R_mono (ok':=(fun k_=>((fun k_=>(w.heap.size≤k_)∧k_≠b4∧k_≠b3∧k_≠b5∧k_≠a8)) k_∧k_≠d6)) (Kd.R_types (Kd.R_types (Kd.R_types (Kd.R_types (Kd.R_apart' (q0.out) (Kd.N_typed a7.out) (by decide)) a6.out (by decide)) a9.out (by decide)) b0.out (by decide)) b1.out (by decide)) (fun k_ hk=>⟨⟨hk.1.1.1.1.1.1,⟨hk.1.1.1.2,⟨hk.1.1.2,⟨hk.1.2,hk.2⟩⟩⟩⟩,fun e_=>(hk.1.1.1.1.2) (by rw [e_];rfl)⟩))).2.1 (Kd.R_F (Kd.R_mono (ok':=(fun k_=>((fun k_=>(w.heap.size≤k_)∧k_≠b4∧k_≠b3∧k_≠b5∧k_≠a8)) k_∧k_≠d6)) (Kd.R_types (Kd.R_types (Kd.R_types (Kd.R_types (Kd.R_apart' (q0.out) (Kd.N_typed a7.out) (by decide)) a6.out (by decide)) a9.out (by decide)) b0.out (by decide)) b1.out (by decide)) (fun k_ hk=>⟨⟨hk.1.1.1.1.1.1,⟨hk.1.1.1.2,⟨hk.1.1.2,⟨hk.1.2,hk.2⟩⟩⟩⟩,fun e_=>(hk.1.1.1.1.2) (by rw [e_];rfl)⟩))) (Kd.N_reads' (Kd.N_mono (ok':=(fun k_=>((fun k_=>(w.heap.size≤k_)∧k_≠b4∧k_≠b3∧k_≠b5∧k_≠a8)) k_∧k_≠d6)) (q1.out) (fun k_ hk=>⟨⟨hk.1,⟨hk.2.2.2.1,⟨hk.2.2.2.2.1,⟨hk.2.2.2.2.2.1,hk.2.2.2.2.2.2⟩⟩⟩⟩,fun e_=>(hk.2.2.1) (by rw [e_];rfl)⟩))).2.1 (Kd.N_F (Kd.N_mono (ok':=(fun k_=>((fun k_=>(w.heap.size≤k_)∧k_≠b4∧k_≠b3∧k_≠b5∧k_≠a8)) k_∧k_≠d6)) (q1.out) (fun k_ hk=>⟨⟨hk.1,⟨hk.2.2.2.1,⟨hk.2.2.2.2.1,⟨hk.2.2.2.2.2.1,hk.2.2.2.2.2.2⟩⟩⟩⟩,fun e_=>(hk.2.2.1) (by rw [e_];rfl)⟩)))) (fun _ hk=>hk)).1
           rw [← z4.out] at q5
           have A4:=Aside0.mk q5
           clear u6 u9 A3 u7 q5
           refine hK.out _ _ ⟨(blk_cell b0.out 0).trans rfl,(blk_cell b1.out 0).trans rfl,(blk_cell b1.out 1).trans rfl,(blk_cell b1.out 2).trans rfl,(blk_cell b1.out 3).trans rfl,(blk_cell b1.out 4).trans rfl,(blk_cell b1.out 5).trans rfl,(blk_cell b1.out 6).trans rfl⟩ (fun hHeld=>?_)
           clear hK K
           refine norm_ (a':=?_) ?_ ?_
           rotate_left
           ·show Act.put _ (some 32) _=_
            simp only [Act.put,List.setIfInBounds_toArray,List.set_cons_zero,List.set_cons_succ,i64_w,i32_w]
            rfl
           refine pure_ (i:=7) (N:=some 33) #[true,true,true,true,true,true,true,true,false,false] rfl rfl (any_of HT_.out (by kernel_rfl)) (fun _ _ _ h=>h) (Or.inl ⟨by rfl,tz4⟩) tz1 ?_
           refine pure_ (i:=8) (N:=some 34) #[true,true,true,true,true,true,true,true,true,false] rfl rfl (any_of HT_.out (by kernel_rfl)) (fun _ _ _ h=>h) (Or.inl ⟨by rfl,tz4⟩) tz1 ?_
           refine last_ (i:=9) (N:=none) #[true,true,true,true,true,true,true,true,true,true] rfl rfl (one_of HT_.out (by kernel_rfl)) (by decide) (fun K hK=>?_)
           refine skip_ (w1:=?_) (by rfl) rfl ?_ ?_
           rotate_left
           ·go_simp
            rfl
           refine hK.out _ _ ?_
           clear hK K
           refine done_ (done_of HT_.out (by kernel_rfl)) ?_
           try go_wp2
           go_roundg k1
           case measure=>have:=k0.out;omega
           case rel=>exact ⟨(wrap64 (a5 + 1)),(t5),(.slice (some ⟨d6,0,none⟩) b2.length q4),tz3,H',⟨by have:=k0.out;omega⟩,⟨by (with_reducible repeat (first|apply Kd.N_alloc|apply Kd.N_drewN|apply Kd.N_drew));exact Kd.N_mono A4.out (fun _ hk=>⟨hk.1,⟨hk.2.1,⟨hk.2.2.1,hk.2.2.2.1⟩⟩⟩)⟩,⟨by refine blkQ ?_;refine blk_far ?_ (by intro e_;have h_:=a7.out.1 _ rfl;revert h_;simp only [and_imp];intros;exact absurd e_.symm (by assumption)) _;refine blkQ ?_;refine blk_far ?_ (by intro e_;have h_:=a7.out.1 _ rfl;revert h_;simp only [and_imp];intros;exact absurd e_.symm (by assumption)) _;refine blkQ ?_;refine blk_far ?_ (by intro e_;have h_:=a7.out.1 _ rfl;revert h_;simp only [and_imp];intros;exact absurd e_.symm (by assumption)) _;refine blkQ ?_;refine blk_far ?_ (by intro e_;have h_:=a7.out.1 _ rfl;revert h_;simp only [and_imp];intros;exact absurd e_.symm (by assumption)) _;refine blkQ ?_;exact a6.out⟩,⟨by refine blkQ ?_;refine blk_far ?_ (by intro e_;have h_:=a7.out.1 _ rfl;revert h_;simp only [and_imp];intros;exact absurd e_.symm (by assumption)) _;refine blkQ ?_;refine blk_far ?_ (by intro e_;have h_:=a7.out.1 _ rfl;revert h_;simp only [and_imp];intros;exact absurd e_.symm (by assumption)) _;refine blkQ ?_;refine blk_far ?_ (by intro e_;have h_:=a7.out.1 _ rfl;revert h_;simp only [and_imp];intros;exact absurd e_.symm (by assumption)) _;refine blkQ ?_;refine blk_far ?_ (by intro e_;have h_:=a7.out.1 _ rfl;revert h_;simp only [and_imp];intros;exact absurd e_.symm (by assumption)) _;refine blkQ ?_;exact a9.out⟩,⟨by refine blkQ ?_;refine blk_far ?_ (by intro e_;have h_:=a7.out.1 _ rfl;revert h_;simp only [and_imp];intros;exact absurd e_.symm (by assumption)) _;refine blkQ ?_;refine blk_far ?_ (by intro e_;have h_:=a7.out.1 _ rfl;revert h_;simp only [and_imp];intros;exact absurd e_.symm (by assumption)) _;refine blkQ ?_;refine blk_far ?_ (by intro e_;have h_:=a7.out.1 _ rfl;revert h_;simp only [and_imp];intros;exact absurd e_.symm (by assumption)) _;refine blkQ ?_;refine blk_far ?_ (by intro e_;have h_:=a7.out.1 _ rfl;revert h_;simp only [and_imp];intros;exact absurd e_.symm (by assumption)) _;refine blkQ ?_;exact b0.out⟩,⟨by repeat (first|(with_reducible first|exact HB.out|apply below_alloc|apply pw_below_drewN|apply below_drew1|refine below_set ?_ o3.out|refine below_set ?_ o3.out|refine below_set ?_ o3.out|refine below_set ?_ o3.out|refine below_set ?_ h0.out|refine below_set ?_ h1.out|refine below_set ?_ h2.out|refine below_set ?_ m0.out)|exact HB.out)⟩⟩
          ·rw [if_neg o2] at H
           exact absurd H (by simp)
         ·rw [if_neg o1] at H
          exact absurd H (by simp)
        ·replace o0:=Bool.eq_false_iff.mpr o0
         subst o0
         rw [if_neg (show ¬ (false=true) by decide)] at H
         have H':=Aside0.mk H
         clear H
         have f8:0≤(a5:Int):=of_decide_eq_true tz2
         have f9:a5 < (l2.length:Int):=of_decide_eq_true tz2
         obtain ⟨t1,d4,d5,e1,e2,g7,g8,h3,h4,l5,g0,g1,g2,g3,g4,g5,g6,h5,h6,h7,h8,h9,i0,i1,i2⟩:=at_T72 p5.out a5 f8 f9
         cases l5
         replace g0:=(HB.out.cell (World.block_lt_of_cell? w _ g0)).trans g0
         replace g1:=(HB.out.cell (World.block_lt_of_cell? w _ g1)).trans g1
         replace g2:=(HB.out.cell (World.block_lt_of_cell? w _ g2)).trans g2
         replace g3:=(HB.out.cell (World.block_lt_of_cell? w _ g3)).trans g3
         replace g4:=(HB.out.cell (World.block_lt_of_cell? w _ g4)).trans g4
         replace g5:=(HB.out.cell (World.block_lt_of_cell? w _ g5)).trans g5
         replace g6:=(HB.out.cell (World.block_lt_of_cell? w _ g6)).trans g6
         have l6:=Aside0.mk h6
         have l7:=Aside0.mk h5
         clear h6 h5
         have l8:=Aside0.mk h8
         have l9:=Aside0.mk h7
         clear h8 h7
         have n6:=Aside0.mk i0
         have n7:=Aside0.mk h9
         clear i0 h9
         have n8:=Aside0.mk i2
         have n9:=Aside0.mk i1
         clear i2 i1
         replace f8:=eq_true f8
         replace f9:=eq_true f9
         go_wp2_with (first|((with_reducible refine gate_dst (N:=9) rfl ?_);refine box_event ?hg (N:=9) ?hd (cs:=#[.int .i64 0,.int .i64 0,.int .i64 0,.slice none 0 0,.slice none 0 0,.slice none 0 0,.slice none 0 0]) (t:=72) ?hr ?_;(case hd=>rfl);(case hg=>rfl);(case hr=>first|(go_simp;done)|(go_simp;rfl));intro a8 hg j7 hbox hb;refine ap14 (Kd.N_below (Kd.N_elderB (by (with_reducible repeat (first|apply Kd.N_alloc|apply Kd.N_drewN|apply Kd.N_drew));exact a7.out) a8 (Nat.le_of_eq hg.symm)) hb) (blk_below (blkP a6) hb) (blk_below (blkP a9) hb) (blk_below (blkP b0) hb) (below_step (belowP HB) hb) (hbox) ((by rw [hg];exact (below_size (belowP HB)):w.heap.size≤a8)) ((by rw [hg];exact (below_size (belowP HB)):w.heap.size≤a8)) ((by rw [hg];exact Nat.ne_of_lt (blk_lt (blkP a6)):b4≠a8)) ((by rw [hg];exact Nat.ne_of_gt (blk_lt (blkP a6)):a8≠b4)) ((by rw [hg];exact Nat.ne_of_lt (blk_lt (blkP a9)):b3≠a8)) ((by rw [hg];exact Nat.ne_of_gt (blk_lt (blkP a9)):a8≠b3)) ((by rw [hg];exact Nat.ne_of_lt (blk_lt (blkP b0)):b5≠a8)) ((by rw [hg];exact Nat.ne_of_gt (blk_lt (blkP b0)):a8≠b5)) ?_;clear a7 a6 a9 b0 HB;intro a7 a6 a9 b0 HB b1 GW348 m0 c0 m1 c1 m2 d0 m3;clear hb hbox hg;have K5:=m1.out;have K6:=c0.out;have K7:=m2.out;have K8:=c1.out;have K9:=m3.out;have L0:=d0.out;have L1:j7.cell? ⟨a8,0,none⟩=some (.int .i64 0):=(blk_cell b1.out 0).trans rfl;have L2:j7.cell? ⟨a8,1,none⟩=some (.int .i64 0):=(blk_cell b1.out 1).trans rfl;have L3:j7.cell? ⟨a8,2,none⟩=some (.int .i64 0):=(blk_cell b1.out 2).trans rfl;have L4:j7.cell? ⟨a8,3,none⟩=some (.slice none 0 0):=(blk_cell b1.out 3).trans rfl;have L5:j7.cell? ⟨a8,4,none⟩=some (.slice none 0 0):=(blk_cell b1.out 4).trans rfl;have L6:j7.cell? ⟨a8,5,none⟩=some (.slice none 0 0):=(blk_cell b1.out 5).trans rfl;have L7:j7.cell? ⟨a8,6,none⟩=some (.slice none 0 0):=(blk_cell b1.out 6).trans rfl;have L8:=blk_frozen b1.out 0;have L9:=blk_frozen b1.out 1;have M0:=blk_frozen b1.out 2;have M1:=blk_frozen b1.out 3;have M2:=blk_frozen b1.out 4;have M3:=blk_frozen b1.out 5;have M4:=blk_frozen b1.out 6)|(go_at_call 53;(with_reducible refine (federated_Plain.calls k1 ((rd_T72 l2 a5).f0) ((rd_T72 l2 a5).f1) ((rd_T72 l2 a5).f2.f0) _ _ ((rd_T72 l2 a5).f2.f1) _ _ ((rd_T72 l2 a5).f2.f2) _ _ ((rd_T72 l2 a5).f3) _ _ ((rd_T72 l2 a5).f4) false _ ?side1 ?side2 ?side3 ?side4 ?side5 ?side6 ?side7 ?side8 t3.out).mono ?_);(case side1=>exact Kd.C_below l6.out (belowP HB));(case side2=>exact l7.out);(case side3=>exact Kd.C_below l8.out (belowP HB));(case side4=>exact l9.out);(case side5=>exact Kd.C_below n6.out (belowP HB));(case side6=>exact n7.out);(case side7=>exact Kd.C_below n8.out (belowP HB));(case side8=>exact n9.out);rintro e M5 ⟨rfl,hb⟩;refine ap6 (Kd.N_below (by (with_reducible repeat (first|apply Kd.N_alloc|apply Kd.N_drewN|apply Kd.N_drew));exact (Kd.N_mono (Kd.N_far (p:=⟨a8,6,none⟩) (Kd.N_far (p:=⟨a8,5,none⟩) (Kd.N_far (p:=⟨a8,4,none⟩) (Kd.N_far (p:=⟨a8,3,none⟩) (Kd.N_far (p:=⟨a8,2,none⟩) (Kd.N_far (p:=⟨a8,1,none⟩) (Kd.N_far (p:=⟨a8,0,none⟩) (Kd.N_mono a7.out (fun k_ hk=>(⟨hk,hk.2⟩:_∧k_≠a8))) (fun _ hk=>hk.2) (.int .i64 ((rd_T72 l2 a5).f0))) (fun _ hk=>hk.2) (.int .i64 ((rd_T72 l2 a5).f1))) (fun _ hk=>hk.2) (.int .i64 ((rd_T72 l2 a5).f2.f0))) (fun _ hk=>hk.2) (.slice d4 ((rd_T72 l2 a5).f2.f1).length d5)) (fun _ hk=>hk.2) (.slice e1 ((rd_T72 l2 a5).f2.f2).length e2)) (fun _ hk=>hk.2) (.slice g7 ((rd_T72 l2 a5).f3).length g8)) (fun _ hk=>hk.2) (.slice h3 ((rd_T72 l2 a5).f4).length h4)) (fun _ h_=>h_.1))) hb) (blk_below (g:=b4) (o:=.cells #[.int .i64 b9,.slice d7 b7.length d8,.slice d9 b8.length e0] 30 (0,0)) (by refine blkQ ?_;refine blk_far ?_ c0.out _;refine blkQ ?_;refine blk_far ?_ c0.out _;refine blkQ ?_;refine blk_far ?_ c0.out _;refine blkQ ?_;refine blk_far ?_ c0.out _;refine blkQ ?_;refine blk_far ?_ c0.out _;refine blkQ ?_;refine blk_far ?_ c0.out _;refine blkQ ?_;refine blk_far ?_ c0.out _;refine blkQ ?_;exact a6.out) hb) (blk_below (g:=b3) (o:=.cells #[.slice none 0 0] 53 (0,0)) (by refine blkQ ?_;refine blk_far ?_ c1.out _;refine blkQ ?_;refine blk_far ?_ c1.out _;refine blkQ ?_;refine blk_far ?_ c1.out _;refine blkQ ?_;refine blk_far ?_ c1.out _;refine blkQ ?_;refine blk_far ?_ c1.out _;refine blkQ ?_;refine blk_far ?_ c1.out _;refine blkQ ?_;refine blk_far ?_ c1.out _;refine blkQ ?_;exact a9.out) hb) (blk_below (g:=b5) (o:=.cells #[d2] 53 (0,0)) (by refine blkQ ?_;refine blk_far ?_ d0.out _;refine blkQ ?_;refine blk_far ?_ d0.out _;refine blkQ ?_;refine blk_far ?_ d0.out _;refine blkQ ?_;refine blk_far ?_ d0.out _;refine blkQ ?_;refine blk_far ?_ d0.out _;refine blkQ ?_;refine blk_far ?_ d0.out _;refine blkQ ?_;refine blk_far ?_ d0.out _;refine blkQ ?_;exact b0.out) hb) (blk_below (g:=a8) (o:=.cells #[.int .i64 ((rd_T72 l2 a5).f0),.int .i64 ((rd_T72 l2 a5).f1),.int .i64 ((rd_T72 l2 a5).f2.f0),.slice d4 ((rd_T72 l2 a5).f2.f1).length d5,.slice e1 ((rd_T72 l2 a5).f2.f2).length e2,.slice g7 ((rd_T72 l2 a5).f3).length g8,.slice h3 ((rd_T72 l2 a5).f4).length h4] 72 (0,0)) (by refine blkQ ?_;refine blk_put (cs:=#[.int .i64 ((rd_T72 l2 a5).f0),.int .i64 ((rd_T72 l2 a5).f1),.int .i64 ((rd_T72 l2 a5).f2.f0),.slice d4 ((rd_T72 l2 a5).f2.f1).length d5,.slice e1 ((rd_T72 l2 a5).f2.f2).length e2,.slice g7 ((rd_T72 l2 a5).f3).length g8,.slice none 0 0]) ?_ 6 _ rfl;refine blkQ ?_;refine blk_put (cs:=#[.int .i64 ((rd_T72 l2 a5).f0),.int .i64 ((rd_T72 l2 a5).f1),.int .i64 ((rd_T72 l2 a5).f2.f0),.slice d4 ((rd_T72 l2 a5).f2.f1).length d5,.slice e1 ((rd_T72 l2 a5).f2.f2).length e2,.slice none 0 0,.slice none 0 0]) ?_ 5 _ rfl;refine blkQ ?_;refine blk_put (cs:=#[.int .i64 ((rd_T72 l2 a5).f0),.int .i64 ((rd_T72 l2 a5).f1),.int .i64 ((rd_T72 l2 a5).f2.f0),.slice d4 ((rd_T72 l2 a5).f2.f1).length d5,.slice none 0 0,.slice none 0 0,.slice none 0 0]) ?_ 4 _ rfl;refine blkQ ?_;refine blk_put (cs:=#[.int .i64 ((rd_T72 l2 a5).f0),.int .i64 ((rd_T72 l2 a5).f1),.int .i64 ((rd_T72 l2 a5).f2.f0),.slice none 0 0,.slice none 0 0,.slice none 0 0,.slice none 0 0]) ?_ 3 _ rfl;refine blkQ ?_;refine blk_put (cs:=#[.int .i64 ((rd_T72 l2 a5).f0),.int .i64 ((rd_T72 l2 a5).f1),.int .i64 0,.slice none 0 0,.slice none 0 0,.slice none 0 0,.slice none 0 0]) ?_ 2 _ rfl;refine blkQ ?_;refine blk_put (cs:=#[.int .i64 ((rd_T72 l2 a5).f0),.int .i64 0,.int .i64 0,.slice none 0 0,.slice none 0 0,.slice none 0 0,.slice none 0 0]) ?_ 1 _ rfl;refine blkQ ?_;refine blk_put (cs:=#[.int .i64 0,.int .i64 0,.int .i64 0,.slice none 0 0,.slice none 0 0,.slice none 0 0,.slice none 0 0]) ?_ 0 _ rfl;refine blkQ ?_;exact b1.out) hb) (below_step (belowP HB) hb) ?_;clear a7 a6 a9 b0 b1 HB;intro a7 a6 a9 b0 b1 HB))
         go_roundg k1
         case measure=>have:=k0.out;omega
         case rel=>exact ⟨(wrap64 (a5 + 1)),(b2),(d2),tz3,H',⟨by have:=k0.out;omega⟩,⟨by (with_reducible repeat (first|apply Kd.N_alloc|apply Kd.N_drewN|apply Kd.N_drew));exact Kd.N_mono a7.out (fun _ hk=>⟨hk.1.1,⟨hk.1.2.1,⟨hk.1.2.2.1,hk.1.2.2.2⟩⟩⟩)⟩,⟨by refine blkQ ?_;exact a6.out⟩,⟨by refine blkQ ?_;exact a9.out⟩,⟨by refine blkQ ?_;exact b0.out⟩,⟨by repeat (first|(with_reducible first|exact HB.out|apply below_alloc|apply pw_below_drewN|apply below_drew1|refine below_set ?_ h0.out|refine below_set ?_ h1.out|refine below_set ?_ h2.out|refine below_set ?_ m0.out)|exact HB.out)⟩⟩
      ·rw [if_neg n5] at H
       exact absurd H (by simp)
     ·rw [if_neg n4] at H
      exact absurd H (by simp)
    ·rw [if_neg k2] at H
     have z0:decide (a5 < (l2.length:Int))=false:=decide_eq_false k2
     clear k2
     replace H:=Option.bind_eq_some_iff.mp H
     obtain ⟨n0,v0,H⟩:=H
     replace H:(if n0=true then ((threshold_Valid.f k1 b9 b7 b8).bind fun e5=>(if e5=0 then ((federated_copied.f k1 b9 b7 b8).bind fun f7=>(if 0≤a0 then (if a0 < (b2.length:Int) then (some (b2.set (a0:Int).toNat (⟨true,(⟨f7.1,f7.2.1,f7.2.2⟩:S30)⟩:S87))) else (none)) else (none))) else (some b2))) else (some b2))=some r:=H
     have q6:=Aside0.mk v0
     clear v0
     by_cases o5:n0=true
     ·subst o5
      rw [if_pos rfl] at H
      replace H:=Option.bind_eq_some_iff.mp H
      obtain ⟨e5,v1,H⟩:=H
      replace H:(if e5=0 then ((federated_copied.f k1 b9 b7 b8).bind fun f7=>(if 0≤a0 then (if a0 < (b2.length:Int) then (some (b2.set (a0:Int).toNat (⟨true,(⟨f7.1,f7.2.1,f7.2.2⟩:S30)⟩:S87))) else (none)) else (none))) else (some b2))=some r:=H
      have v2:=Aside0.mk v1
      clear v1
      by_cases j8:e5=0
      ·rw [if_pos j8] at H
       have A5:(e5 == 0)=true:=beq_iff_eq.mpr j8
       have A6:(e5 != 0)=false:=bne_eq_false_iff_eq.mpr j8
       clear j8
       replace H:=Option.bind_eq_some_iff.mp H
       obtain ⟨⟨e6,e3,e4⟩,v3,H⟩:=H
       replace H:(if 0≤a0 then (if a0 < (b2.length:Int) then (some (b2.set (a0:Int).toNat (⟨true,(⟨e6,e3,e4⟩:S30)⟩:S87))) else (none)) else (none))=some r:=H
       have A7:=Aside0.mk v3
       clear v3
       by_cases o6:0≤a0
       ·rw [if_pos o6] at H
        have M6:decide (0≤a0)=true:=decide_eq_true o6
        clear o6
        by_cases o7:a0 < (b2.length:Int)
        ·rw [if_pos o7] at H
         have M7:decide (a0 < (b2.length:Int))=true:=decide_eq_true o7
         clear o7
         obtain ⟨v4,q7⟩:∃ y_:List (S87),y_=(b2.set (a0:Int).toNat (⟨true,(⟨e6,e3,e4⟩:S30)⟩:S87)):=⟨_,rfl⟩
         replace H:(some v4)=some r:=rH q7 H
         have A8:=Aside0.mk q7
         clear q7
         obtain rfl:=Option.some.inj H
         try go_wp2_with (first|((with_reducible refine gate_callee (f:=55) rfl ?_);refine goesL_ (some 37) rfl rfl Try.func55 (by kernel_rfl) rfl #[.int .i64 a0] rfl tz0 ?_;(with_reducible refine (federated_node.calls a0 true _ q6.out).mono ?_);rintro e w' ⟨rfl,⟨nd,rfl⟩⟩;refine ⟨_,rfl,?_⟩;(try (rw [drewN_self wr];generalize hq_:World.drewN wr _=wr;have e7:Aside0 (Kd.N k87 87 wr w.heap.size (fun k_=>(w.heap.size≤k_)∧k_≠b4∧k_≠b3∧k_≠b5) d2 b2):=⟨by rw [← hq_];exact (by (with_reducible repeat (first|apply Kd.N_alloc|apply Kd.N_drewN|apply Kd.N_drew));exact a7.out)⟩;have e8:Aside0 (wr.heap[b4]? = some (.cells #[.int .i64 b9,.slice d7 b7.length d8,.slice d9 b8.length e0] 30 (0,0))):=⟨by rw [← hq_];exact (blkP a6)⟩;have e9:Aside0 (wr.heap[b3]? = some (.cells #[.slice none 0 0] 53 (0,0))):=⟨by rw [← hq_];exact (blkP a9)⟩;have f5:Aside0 (wr.heap[b5]? = some (.cells #[d2] 53 (0,0))):=⟨by rw [← hq_];exact (blkP b0)⟩;have f6:Aside0 (Below w.heap.size w wr):=⟨by rw [← hq_];exact (belowP HB)⟩;clear a7 a6 a9 b0 HB hq_;have a7:=e7;have a6:=e8;have a9:=e9;have b0:=f5;have HB:=f6;clear e7 e8 e9 f5 f6));have M8:=p7.out;have M9:=p8.out;have N0:=l3.out;have N1:=n2.out;have N2:wr.cell? ⟨b4,0,none⟩=some (.int .i64 b9):=(blk_cell a6.out 0).trans rfl;have N3:wr.cell? ⟨b4,1,none⟩=some (.slice d7 b7.length d8):=(blk_cell a6.out 1).trans rfl;have N4:wr.cell? ⟨b4,2,none⟩=some (.slice d9 b8.length e0):=(blk_cell a6.out 2).trans rfl;have N5:=blk_frozen a6.out 0;have N6:=blk_frozen a6.out 1;have N7:=blk_frozen a6.out 2)|(go_at_call 11;(with_reducible refine (threshold_Valid.calls k1 b9 _ _ b7 _ _ b8 e5 _ ?side1 ?side2 ?side3 ?side4 v2.out).mono ?_);(case side1=>exact Kd.C_q (Kd.C_below p1.out HB.out));(case side2=>exact p2.out);(case side3=>exact Kd.C_q (Kd.C_below p3.out HB.out));(case side4=>exact p4.out);rintro e A9 ⟨rfl,hb⟩;refine ap5 (Kd.N_below (by (with_reducible repeat (first|apply Kd.N_alloc|apply Kd.N_drewN|apply Kd.N_drew));exact a7.out) hb) (blk_below (blkP a6) hb) (blk_below (blkP a9) hb) (blk_below (blkP b0) hb) (below_step (belowP HB) hb) ?_;clear a7 a6 a9 b0 HB;intro a7 a6 a9 b0 HB))
         refine ap5 (Kd.N_drew a7.out) (blk_drew a6.out) (blk_drew a9.out) (blk_drew b0.out) (below_drew1 HB.out) ?_
         clear a7 a6 a9 b0 HB
         intro a7 a6 a9 b0 HB
         refine start_ (n:=8) (S:=fun w'=>w'.cell? ⟨b5,0,none⟩=some (d2)∧w'.cell? ⟨b4,0,none⟩=some (.int .i64 b9)∧w'.cell? ⟨b4,1,none⟩=some (.slice d7 b7.length d8)∧w'.cell? ⟨b4,2,none⟩=some (.slice d9 b8.length e0)) (ds:=[7]) #[false,false,false,false,false,false,false,false] (by kernel_rfl) rfl rfl ⟨(blk_cell b0.out 0).trans rfl,(blk_cell a6.out 0).trans rfl,(blk_cell a6.out 1).trans rfl,(blk_cell a6.out 2).trans rfl⟩ (fun hHeld=>?_);refine with_tabW federated_View.tab9 federated_View.bits9 (fun HT_ HW_=>?_)
         generalize A9.drew=N8 at a7 a6 a9 b0 HB hHeld ⊢
         refine pure_ (i:=0) (N:=some 43) #[true,false,false,false,false,false,false,false] rfl rfl (any_of HT_.out (by kernel_rfl)) (fun _ _ _ h=>h) (Or.inl ⟨by rfl,tz4⟩) tz1 ?_
         refine pure_ (i:=2) (N:=some 45) #[true,false,true,false,false,false,false,false] rfl rfl (any_of HT_.out (by kernel_rfl)) (fun _ _ _ h=>h) (Or.inl ⟨by rfl,tz4⟩) tz1 ?_
         refine take_ (i:=1) (N:=some 44) #[true,true,true,false,false,false,false,false] rfl rfl (take_ofW HT_.out HW_.out (by kernel_rfl)) (fun _ _ _ h=>h) (Or.inl ⟨by rfl,tz6⟩) hHeld tz1 ?_
         refine take_ (i:=3) (N:=some 46) #[true,true,true,true,false,false,false,false] rfl rfl (take_ofW HT_.out HW_.out (by kernel_rfl)) (fun _ _ _ h=>h) (Or.inl ⟨by rfl,tz6⟩) hHeld tz1 ?_
         refine one_ (i:=4) (N:=some 47) #[true,true,true,true,true,false,false,false] rfl rfl (one_of HT_.out (by kernel_rfl)) (by decide) (fun K hK=>?_)
         refine goes_ Try.func54 (by kernel_rfl) rfl #[.agg #[.int .i64 b9,.slice d7 b7.length d8,.slice d9 b8.length e0]] (by rfl) rfl rfl tz0 ?_
         with_reducible refine (federated_copied.calls k1 b9 _ _ b7 _ _ b8 e6 e3 e4 _ ?side1 ?side2 ?side3 ?side4 A7.out).mono ?_
         (case side1=>exact Kd.C_q (Kd.C_below p1.out HB.out))
         (case side2=>exact p2.out)
         (case side3=>exact Kd.C_q (Kd.C_below p3.out HB.out))
         (case side4=>exact p4.out)
         rintro e k4 ⟨B0,N9,rfl,j5,j6,hb⟩
         refine ⟨_,rfl,?_⟩
         refine ap7 (Kd.N_mono (Kd.N_told (Kd.N_told (Kd.N_old (by (with_reducible repeat (first|apply Kd.N_alloc|apply Kd.N_drewN|apply Kd.N_drew));exact a7.out) hb) (Kd.R_base j5)) (Kd.R_base j6)) (fun _ h_=>h_.1)) (Kd.R_lower (Kd.R_newM (M:=fun k_=>(w.heap.size≤k_)) j5 (below_size (belowP HB)) (fun k_ h_=>h_)) (below_size (belowP HB))) (Kd.N_lower (Kd.N_mono (ok':=fun k_=>(w.heap.size≤k_)∧some k_≠(B0:Value).ownBlock∧some k_≠(d2:Value).ownBlock∧k_≠b4∧k_≠b3∧k_≠b5) (Kd.R_N (Kd.R_bound j6)) (fun k_ hk_=>⟨(Nat.le_trans (below_size (belowP HB)) hk_.2.1),hk_.1,(Kd.fresh' (Kd.N_lt (by (with_reducible repeat (first|apply Kd.N_alloc|apply Kd.N_drewN|apply Kd.N_drew));exact a7.out)) k_ hk_.2.1),(Kd.freshB (blkP a6) k_ hk_.2.1),(Kd.freshB (blkP a9) k_ hk_.2.1),(Kd.freshB (blkP b0) k_ hk_.2.1)⟩)) (below_size (belowP HB))) (blk_below (blkP a6) hb) (blk_below (blkP a9) hb) (blk_below (blkP b0) hb) (below_step (belowP HB) hb) ?_
         clear a7 a6 a9 b0 HB
         intro a7 q8 q9 a6 a9 b0 HB
         (try clear hb)
         (try clear hb2)
         (try clear hk)
         (try clear hi)
         (try clear j5)
         (try clear j6)
         obtain ⟨i3,i4,v5⟩:=Kd.N_slice q9.out
         (first|subst v5|(injection v5 with f1_ f2_ f3_;have f4_:=f1_.symm;have f5_:=f3_.symm;clear f1_ f2_ f3_;subst f4_;subst f5_))
         obtain ⟨i5,i6,v6⟩:=Kd.R_slice q8.out
         (first|subst v6|(injection v6 with f1_ f2_ f3_;have f4_:=f1_.symm;have f5_:=f3_.symm;clear f1_ f2_ f3_;subst f4_;subst f5_))
         have r0:0≤(a0:Int):=of_decide_eq_true tz2
         have r1:(a0:Int) < ((b2.length:Int):Int):=of_decide_eq_true tz2
         obtain ⟨b6,j9,v7,v8,gl53,O0,v9⟩:=Kd.N_form a7.out (by omega)
         (first|cases v7|(injection v7 with ea_ en_ ec_;(first|subst ea_|(injection ea_ with ea_;subst ea_));subst ec_;clear en_))
         have o8:=Aside0.mk v8
         have O1:=Aside0.mk v9
         clear v8 gl53 v9
         obtain ⟨O2,B2,w0,m6,m7⟩:=Kd.N_elem a7.out z87 (a0:Int) r0 r1
         obtain ⟨C0,C1,C2,C3,rfl,O3,O4,O5,O6⟩:=k87_openF w0
         have O7:World.cell? _ ⟨b6,(a0:Int).toNat * 4,none⟩=some (.bool ((rd_T87 b2 a0).f0)):=m6 0 _ rfl
         have O8:World.cell? _ ⟨b6,(a0:Int).toNat * 4 + 1,none⟩=some (.int .i64 ((rd_T87 b2 a0).f1.f0)):=m6 1 _ rfl
         have O9:World.cell? _ ⟨b6,(a0:Int).toNat * 4 + 2,none⟩=some (.slice C0 ((rd_T87 b2 a0).f1.f1).length C1):=m6 2 _ rfl
         have P0:World.cell? _ ⟨b6,(a0:Int).toNat * 4 + 3,none⟩=some (.slice C2 ((rd_T87 b2 a0).f1.f2).length C3):=m6 3 _ rfl
         have P1:World.frozen? _ ⟨b6,(a0:Int).toNat * 4,none⟩=false:=m7 0
         have P2:World.frozen? _ ⟨b6,(a0:Int).toNat * 4 + 1,none⟩=false:=m7 1
         have P3:World.frozen? _ ⟨b6,(a0:Int).toNat * 4 + 2,none⟩=false:=m7 2
         have P4:World.frozen? _ ⟨b6,(a0:Int).toNat * 4 + 3,none⟩=false:=m7 3
         clear B2 m6 m7 w0
         replace r0:=eq_true r0
         replace r1:=eq_true r1
         have o9:=Aside0.mk (show Kd.N k87 87 _ w.heap.size (fun k_=>(w.heap.size≤k_)∧some k_≠(.slice i5 e3.length i6:Value).ownBlock∧some k_≠(.slice i3 e4.length i4:Value).ownBlock∧k_≠b4∧k_≠b3∧k_≠b5) (.slice (some ⟨b6,0,none⟩) b2.length j9) b2 from (Kd.N_mono (a7.out) (fun k_ hk=>⟨hk.1.1.1,⟨hk.1.2,⟨hk.2,⟨hk.1.1.2.1,⟨hk.1.1.2.2.1,hk.1.1.2.2.2⟩⟩⟩⟩⟩)))
         replace o9:=Aside0.mk (show Kd.N k87 87 _ w.heap.size (fun k_=>(w.heap.size≤k_)∧k_≠b4∧k_≠b3∧k_≠b5) (.slice (some ⟨b6,0,none⟩) b2.length j9) b2 from Kd.N_mono o9.out (fun k_ hk=>⟨hk.1,⟨hk.2.2.2.1,⟨hk.2.2.2.2.1,hk.2.2.2.2.2⟩⟩⟩))
         obtain ⟨P5,w2,w3,w4,C4⟩:=Kd.N_elem o9.out z87 (a0:Int) (of_decide_eq_true tz2) (by have h_:(a0:Int) < ((b2.length:Int):Int):=of_decide_eq_true tz2;first|exact h_|(have e_:=(Kd.N_reads' a7.out).1;omega)|simpa using h_)
         obtain ⟨P6,P7,P8,P9,rfl,Q0,Q1,Q2,Q3⟩:=k87_openF w3
         have r2:=(Kd.N_seg o9.out (a0:Int) (of_decide_eq_true tz2) (by have h_:(a0:Int) < ((b2.length:Int):Int):=of_decide_eq_true tz2;first|exact h_|(have e_:=(Kd.N_reads' a7.out).1;omega)|simpa using h_) (seg:=[.bool true,.int .i64 e6,.slice i5 e3.length i6,.slice i3 e4.length i4]) (j:=0) w2 w4 (show 4≤4 from by decide) (x':=(⟨true,(⟨e6,e3,e4⟩:S30)⟩:S87)) (k87_mkF _ _ (⟨true,(⟨e6,e3,e4⟩:S30)⟩:S87) (Kd.R_reads' (Kd.R_mono (ok':=(fun k_=>((fun k_=>(w.heap.size≤k_)∧k_≠b4∧k_≠b3∧k_≠b5)) k_∧k_≠b6)) (Kd.R_types (Kd.R_types (Kd.R_types (Kd.R_apart' (q8.out) (Kd.N_typed a7.out) (by decide)) a6.out (by decide)) a9.out (by decide)) b0.out (by decide)) (fun k_ hk=>⟨⟨hk.1.1.1.1.1,⟨hk.1.1.2,⟨hk.1.2,hk.2⟩⟩⟩,fun e_=>(hk.1.1.1.2) (by rw [e_];rfl)⟩))).2.1 (Kd.R_F (Kd.R_mono (ok':=(fun k_=>((fun k_=>(w.heap.size≤k_)∧k_≠b4∧k_≠b3∧k_≠b5)) k_∧k_≠b6)) (Kd.R_types (Kd.R_types (Kd.R_types (Kd.R_apart' (q8.out) (Kd.N_typed a7.out) (by decide)) a6.out (by decide)) a9.out (by decide)) b0.out (by decide)) (fun k_ hk=>⟨⟨hk.1.1.1.1.1,⟨hk.1.1.2,⟨hk.1.2,hk.2⟩⟩⟩,fun e_=>(hk.1.1.1.2) (by rw [e_];rfl)⟩))) (Kd.N_reads' (Kd.N_mono (ok':=(fun k_=>((fun k_=>(w.heap.size≤k_)∧k_≠b4∧k_≠b3∧k_≠b5)) k_∧k_≠b6)) (q9.out) (fun k_ hk=>⟨⟨hk.1,⟨hk.2.2.2.1,⟨hk.2.2.2.2.1,hk.2.2.2.2.2⟩⟩⟩,fun e_=>(hk.2.2.1) (by rw [e_];rfl)⟩))).2.1 (Kd.N_F (Kd.N_mono (ok':=(fun k_=>((fun k_=>(w.heap.size≤k_)∧k_≠b4∧k_≠b3∧k_≠b5)) k_∧k_≠b6)) (q9.out) (fun k_ hk=>⟨⟨hk.1,⟨hk.2.2.2.1,⟨hk.2.2.2.2.1,hk.2.2.2.2.2⟩⟩⟩,fun e_=>(hk.2.2.1) (by rw [e_];rfl)⟩)))) (fun _ hk=>hk)).1
         rw [← A8.out] at r2
         have C5:=Aside0.mk r2
         clear w2 w4 C4 w3 r2
         refine hK.out _ _ ⟨(blk_cell b0.out 0).trans rfl,(blk_cell a6.out 0).trans rfl,(blk_cell a6.out 1).trans rfl,(blk_cell a6.out 2).trans rfl⟩ (fun hHeld=>?_)
         clear hK K
         refine norm_ (a':=?_) ?_ ?_
         rotate_left
         ·show Act.put _ (some 47) _=_
          simp only [Act.put,List.setIfInBounds_toArray,List.set_cons_zero,List.set_cons_succ,i64_w,i32_w]
          rfl
         refine pure_ (i:=5) (N:=some 48) #[true,true,true,true,true,true,false,false] rfl rfl (any_of HT_.out (by kernel_rfl)) (fun _ _ _ h=>h) (Or.inl ⟨by rfl,tz4⟩) tz1 ?_
         refine pure_ (i:=6) (N:=some 49) #[true,true,true,true,true,true,true,false] rfl rfl (any_of HT_.out (by kernel_rfl)) (fun _ _ _ h=>h) (Or.inl ⟨by rfl,tz4⟩) tz1 ?_
         refine last_ (i:=7) (N:=none) #[true,true,true,true,true,true,true,true] rfl rfl (one_of HT_.out (by kernel_rfl)) (by decide) (fun K hK=>?_)
         refine skip_ (w1:=?_) (by rfl) rfl ?_ ?_
         rotate_left
         ·go_simp
          rfl
         refine hK.out _ _ ?_
         clear hK K
         refine done_ (done_of HT_.out (by kernel_rfl)) ?_
         have e7:Aside0 (Kd.N k87 87 ((((k4.setCell ⟨b6,(a0:Int).toNat * 4,none⟩ (.bool true)).setCell ⟨b6,(a0:Int).toNat * 4 + 1,none⟩ (.int .i64 e6)).setCell ⟨b6,(a0:Int).toNat * 4 + 2,none⟩ (.slice i5 e3.length i6)).setCell ⟨b6,(a0:Int).toNat * 4 + 3,none⟩ (.slice i3 e4.length i4)) w.heap.size (fun k_=>(w.heap.size≤k_)∧k_≠b4∧k_≠b3∧k_≠b5) (.slice (some ⟨b6,0,none⟩) b2.length j9) v4):=⟨by (with_reducible repeat (first|apply Kd.N_alloc|apply Kd.N_drewN|apply Kd.N_drew));exact C5.out⟩
         have e8:Aside0 (((((k4.setCell ⟨b6,(a0:Int).toNat * 4,none⟩ (.bool true)).setCell ⟨b6,(a0:Int).toNat * 4 + 1,none⟩ (.int .i64 e6)).setCell ⟨b6,(a0:Int).toNat * 4 + 2,none⟩ (.slice i5 e3.length i6)).setCell ⟨b6,(a0:Int).toNat * 4 + 3,none⟩ (.slice i3 e4.length i4)).heap[b4]? = some (.cells #[.int .i64 b9,.slice d7 b7.length d8,.slice d9 b8.length e0] 30 (0,0))):=⟨by refine blkQ ?_;refine blk_far ?_ (by intro e_;have h_:=a7.out.1 _ rfl;revert h_;simp only [and_imp];intros;exact absurd e_.symm (by assumption)) _;refine blkQ ?_;refine blk_far ?_ (by intro e_;have h_:=a7.out.1 _ rfl;revert h_;simp only [and_imp];intros;exact absurd e_.symm (by assumption)) _;refine blkQ ?_;refine blk_far ?_ (by intro e_;have h_:=a7.out.1 _ rfl;revert h_;simp only [and_imp];intros;exact absurd e_.symm (by assumption)) _;refine blkQ ?_;refine blk_far ?_ (by intro e_;have h_:=a7.out.1 _ rfl;revert h_;simp only [and_imp];intros;exact absurd e_.symm (by assumption)) _;refine blkQ ?_;exact a6.out⟩
         have e9:Aside0 (((((k4.setCell ⟨b6,(a0:Int).toNat * 4,none⟩ (.bool true)).setCell ⟨b6,(a0:Int).toNat * 4 + 1,none⟩ (.int .i64 e6)).setCell ⟨b6,(a0:Int).toNat * 4 + 2,none⟩ (.slice i5 e3.length i6)).setCell ⟨b6,(a0:Int).toNat * 4 + 3,none⟩ (.slice i3 e4.length i4)).heap[b3]? = some (.cells #[.slice none 0 0] 53 (0,0))):=⟨by refine blkQ ?_;refine blk_far ?_ (by intro e_;have h_:=a7.out.1 _ rfl;revert h_;simp only [and_imp];intros;exact absurd e_.symm (by assumption)) _;refine blkQ ?_;refine blk_far ?_ (by intro e_;have h_:=a7.out.1 _ rfl;revert h_;simp only [and_imp];intros;exact absurd e_.symm (by assumption)) _;refine blkQ ?_;refine blk_far ?_ (by intro e_;have h_:=a7.out.1 _ rfl;revert h_;simp only [and_imp];intros;exact absurd e_.symm (by assumption)) _;refine blkQ ?_;refine blk_far ?_ (by intro e_;have h_:=a7.out.1 _ rfl;revert h_;simp only [and_imp];intros;exact absurd e_.symm (by assumption)) _;refine blkQ ?_;exact a9.out⟩
         have f5:Aside0 (((((k4.setCell ⟨b6,(a0:Int).toNat * 4,none⟩ (.bool true)).setCell ⟨b6,(a0:Int).toNat * 4 + 1,none⟩ (.int .i64 e6)).setCell ⟨b6,(a0:Int).toNat * 4 + 2,none⟩ (.slice i5 e3.length i6)).setCell ⟨b6,(a0:Int).toNat * 4 + 3,none⟩ (.slice i3 e4.length i4)).heap[b5]? = some (.cells #[.slice (some ⟨b6,0,none⟩) b2.length j9] 53 (0,0))):=⟨by refine blkQ ?_;refine blk_far ?_ (by intro e_;have h_:=a7.out.1 _ rfl;revert h_;simp only [and_imp];intros;exact absurd e_.symm (by assumption)) _;refine blkQ ?_;refine blk_far ?_ (by intro e_;have h_:=a7.out.1 _ rfl;revert h_;simp only [and_imp];intros;exact absurd e_.symm (by assumption)) _;refine blkQ ?_;refine blk_far ?_ (by intro e_;have h_:=a7.out.1 _ rfl;revert h_;simp only [and_imp];intros;exact absurd e_.symm (by assumption)) _;refine blkQ ?_;refine blk_far ?_ (by intro e_;have h_:=a7.out.1 _ rfl;revert h_;simp only [and_imp];intros;exact absurd e_.symm (by assumption)) _;refine blkQ ?_;exact b0.out⟩
         have f6:Aside0 (Below w.heap.size w ((((k4.setCell ⟨b6,(a0:Int).toNat * 4,none⟩ (.bool true)).setCell ⟨b6,(a0:Int).toNat * 4 + 1,none⟩ (.int .i64 e6)).setCell ⟨b6,(a0:Int).toNat * 4 + 2,none⟩ (.slice i5 e3.length i6)).setCell ⟨b6,(a0:Int).toNat * 4 + 3,none⟩ (.slice i3 e4.length i4))):=⟨by repeat (first|(with_reducible first|exact HB.out|apply below_alloc|apply pw_below_drewN|apply below_drew1|refine below_set ?_ o8.out|refine below_set ?_ o8.out|refine below_set ?_ o8.out|refine below_set ?_ o8.out|refine below_set ?_ h0.out|refine below_set ?_ h1.out|refine below_set ?_ h2.out)|exact HB.out)⟩
         (try clear a7)
         (try clear a6)
         (try clear a9)
         (try clear b0)
         (try clear HB)
         generalize ((((k4.setCell ⟨b6,(a0:Int).toNat * 4,none⟩ (.bool true)).setCell ⟨b6,(a0:Int).toNat * 4 + 1,none⟩ (.int .i64 e6)).setCell ⟨b6,(a0:Int).toNat * 4 + 2,none⟩ (.slice i5 e3.length i6)).setCell ⟨b6,(a0:Int).toNat * 4 + 3,none⟩ (.slice i3 e4.length i4))=w8 at e7 e8 e9 f5 f6 ⊢
         have a7:=e7
         have a6:=e8
         have a9:=e9
         have b0:=f5
         have HB:=f6
         clear e7 e8 e9 f5 f6
         have Q4:=n3.out
         have Q5:=l4.out
         have Q6:w8.cell? ⟨b5,0,none⟩=some (.slice (some ⟨b6,0,none⟩) b2.length j9):=(blk_cell b0.out 0).trans rfl
         have Q7:=blk_frozen b0.out 0
         have Q8:w8.cell? ⟨b3,0,none⟩=some (.slice none 0 0):=(blk_cell a9.out 0).trans rfl
         have Q9:=blk_frozen a9.out 0
         try go_wp2
         refine bodyPost_ret (results_cell_row rfl _ _ b3 53 #[.slice (some ⟨b6,0,none⟩) b2.length j9] (0,0) _ rfl (by refine blkQ ?_;refine blk_put (cs:=#[.slice none 0 0]) ?_ 0 _ rfl;refine blkQ ?_;exact a9.out) Try.underlying53 rfl (by kernel_rfl)) rfl ?_
         exact ⟨_,rE,by (with_reducible repeat (first|apply Kd.N_alloc|apply Kd.N_drewN|apply Kd.N_drew));exact Kd.N_mono (Kd.N_far (p:=⟨b3,0,none⟩) (Kd.N_mono a7.out (fun k_ hk=>(⟨hk,hk.2.2.1⟩:_∧k_≠b3))) (fun _ hk=>hk.2) (.slice (some ⟨b6,0,none⟩) b2.length j9)) (fun _ hk=>hk.1.1),by repeat (first|(with_reducible first|exact HB.out|apply below_alloc|apply pw_below_drewN|apply below_drew1|refine below_set ?_ h0.out|refine below_set ?_ h1.out|refine below_set ?_ h2.out)|exact HB.out)⟩
        ·rw [if_neg o7] at H
         exact absurd H (by simp)
       ·rw [if_neg o6] at H
        exact absurd H (by simp)
      ·rw [if_neg j8] at H
       have A5:(e5 == 0)=false:=beq_eq_false_iff_ne.mpr j8
       have A6:(e5 != 0)=true:=bne_iff_ne.mpr j8
       obtain rfl:=Option.some.inj H
       go_wp2_with (first|((with_reducible refine gate_callee (f:=55) rfl ?_);refine goesL_ (some 37) rfl rfl Try.func55 (by kernel_rfl) rfl #[.int .i64 a0] rfl tz0 ?_;(with_reducible refine (federated_node.calls a0 true _ q6.out).mono ?_);rintro e w' ⟨rfl,⟨nd,rfl⟩⟩;refine ⟨_,rfl,?_⟩;(try (rw [drewN_self wr];generalize hq_:World.drewN wr _=wr;have e7:Aside0 (Kd.N k87 87 wr w.heap.size (fun k_=>(w.heap.size≤k_)∧k_≠b4∧k_≠b3∧k_≠b5) d2 b2):=⟨by rw [← hq_];exact (by (with_reducible repeat (first|apply Kd.N_alloc|apply Kd.N_drewN|apply Kd.N_drew));exact a7.out)⟩;have e8:Aside0 (wr.heap[b4]? = some (.cells #[.int .i64 b9,.slice d7 b7.length d8,.slice d9 b8.length e0] 30 (0,0))):=⟨by rw [← hq_];exact (blkP a6)⟩;have e9:Aside0 (wr.heap[b3]? = some (.cells #[.slice none 0 0] 53 (0,0))):=⟨by rw [← hq_];exact (blkP a9)⟩;have f5:Aside0 (wr.heap[b5]? = some (.cells #[d2] 53 (0,0))):=⟨by rw [← hq_];exact (blkP b0)⟩;have f6:Aside0 (Below w.heap.size w wr):=⟨by rw [← hq_];exact (belowP HB)⟩;clear a7 a6 a9 b0 HB hq_;have a7:=e7;have a6:=e8;have a9:=e9;have b0:=f5;have HB:=f6;clear e7 e8 e9 f5 f6));have R0:=p7.out;have R1:=p8.out;have R2:=l3.out;have R3:=n2.out;have R4:wr.cell? ⟨b4,0,none⟩=some (.int .i64 b9):=(blk_cell a6.out 0).trans rfl;have R5:wr.cell? ⟨b4,1,none⟩=some (.slice d7 b7.length d8):=(blk_cell a6.out 1).trans rfl;have R6:wr.cell? ⟨b4,2,none⟩=some (.slice d9 b8.length e0):=(blk_cell a6.out 2).trans rfl;have R7:=blk_frozen a6.out 0;have R8:=blk_frozen a6.out 1;have R9:=blk_frozen a6.out 2)|(go_at_call 11;(with_reducible refine (threshold_Valid.calls k1 b9 _ _ b7 _ _ b8 e5 _ ?side1 ?side2 ?side3 ?side4 v2.out).mono ?_);(case side1=>exact Kd.C_q (Kd.C_below p1.out HB.out));(case side2=>exact p2.out);(case side3=>exact Kd.C_q (Kd.C_below p3.out HB.out));(case side4=>exact p4.out);rintro e w9 ⟨rfl,hb⟩;refine ap5 (Kd.N_below (by (with_reducible repeat (first|apply Kd.N_alloc|apply Kd.N_drewN|apply Kd.N_drew));exact a7.out) hb) (blk_below (blkP a6) hb) (blk_below (blkP a9) hb) (blk_below (blkP b0) hb) (below_step (belowP HB) hb) ?_;clear a7 a6 a9 b0 HB;intro a7 a6 a9 b0 HB;have S0:=n3.out;have S1:=l4.out;have S2:w9.cell? ⟨b5,0,none⟩=some (d2):=(blk_cell b0.out 0).trans rfl;have S3:=blk_frozen b0.out 0;obtain ⟨x1,x2,C6⟩:=Kd.N_slice a7.out;subst C6;have S4:w9.cell? ⟨b3,0,none⟩=some (.slice none 0 0):=(blk_cell a9.out 0).trans rfl;have S5:=blk_frozen a9.out 0))
       refine bodyPost_ret (results_cell_row rfl _ _ b3 53 #[.slice x1 b2.length x2] (0,0) _ rfl (by refine blkQ ?_;refine blk_put (cs:=#[.slice none 0 0]) ?_ 0 _ rfl;refine blkQ ?_;exact a9.out) Try.underlying53 rfl (by kernel_rfl)) rfl ?_
       exact ⟨_,rE,by (with_reducible repeat (first|apply Kd.N_alloc|apply Kd.N_drewN|apply Kd.N_drew));exact Kd.N_mono (Kd.N_far (p:=⟨b3,0,none⟩) (Kd.N_mono a7.out (fun k_ hk=>(⟨hk,hk.2.2.1⟩:_∧k_≠b3))) (fun _ hk=>hk.2) (.slice x1 b2.length x2)) (fun _ hk=>hk.1.1),by repeat (first|(with_reducible first|exact HB.out|apply below_alloc|apply pw_below_drewN|apply below_drew1|refine below_set ?_ h0.out|refine below_set ?_ h1.out|refine below_set ?_ h2.out)|exact HB.out)⟩
     ·replace o5:=Bool.eq_false_iff.mpr o5
      subst o5
      rw [if_neg (show ¬ (false=true) by decide)] at H
      obtain rfl:=Option.some.inj H
      go_wp2_with (first|((with_reducible refine gate_callee (f:=55) rfl ?_);refine goesL_ (some 37) rfl rfl Try.func55 (by kernel_rfl) rfl #[.int .i64 a0] rfl tz0 ?_;(with_reducible refine (federated_node.calls a0 false _ q6.out).mono ?_);rintro e w' ⟨rfl,⟨nd,rfl⟩⟩;refine ⟨_,rfl,?_⟩;(try (rw [drewN_self wr];generalize hq_:World.drewN wr _=wr;have e7:Aside0 (Kd.N k87 87 wr w.heap.size (fun k_=>(w.heap.size≤k_)∧k_≠b4∧k_≠b3∧k_≠b5) d2 b2):=⟨by rw [← hq_];exact (by (with_reducible repeat (first|apply Kd.N_alloc|apply Kd.N_drewN|apply Kd.N_drew));exact a7.out)⟩;have e8:Aside0 (wr.heap[b4]? = some (.cells #[.int .i64 b9,.slice d7 b7.length d8,.slice d9 b8.length e0] 30 (0,0))):=⟨by rw [← hq_];exact (blkP a6)⟩;have e9:Aside0 (wr.heap[b3]? = some (.cells #[.slice none 0 0] 53 (0,0))):=⟨by rw [← hq_];exact (blkP a9)⟩;have f5:Aside0 (wr.heap[b5]? = some (.cells #[d2] 53 (0,0))):=⟨by rw [← hq_];exact (blkP b0)⟩;have f6:Aside0 (Below w.heap.size w wr):=⟨by rw [← hq_];exact (belowP HB)⟩;clear a7 a6 a9 b0 HB hq_;have a7:=e7;have a6:=e8;have a9:=e9;have b0:=f5;have HB:=f6;clear e7 e8 e9 f5 f6));have S6:=n2.out;have S7:=l3.out;have S8:=n3.out;have S9:=l4.out;have T0:wr.cell? ⟨b5,0,none⟩=some (d2):=(blk_cell b0.out 0).trans rfl;have T2:=blk_frozen b0.out 0;obtain ⟨x3,x4,C7⟩:=Kd.N_slice a7.out;subst C7;have U0:=p8.out;have U1:=p7.out;have U2:wr.cell? ⟨b3,0,none⟩=some (.slice none 0 0):=(blk_cell a9.out 0).trans rfl;have U3:=blk_frozen a9.out 0))
      refine bodyPost_ret (results_cell_row rfl _ _ b3 53 #[.slice x3 b2.length x4] (0,0) _ rfl (by refine blkQ ?_;refine blk_put (cs:=#[.slice none 0 0]) ?_ 0 _ rfl;refine blkQ ?_;exact a9.out) Try.underlying53 rfl (by kernel_rfl)) rfl ?_
      exact ⟨_,rE,by (with_reducible repeat (first|apply Kd.N_alloc|apply Kd.N_drewN|apply Kd.N_drew));exact Kd.N_mono (Kd.N_far (p:=⟨b3,0,none⟩) (Kd.N_mono a7.out (fun k_ hk=>(⟨hk,hk.2.2.1⟩:_∧k_≠b3))) (fun _ hk=>hk.2) (.slice x3 b2.length x4)) (fun _ hk=>hk.1.1),by repeat (first|(with_reducible first|exact HB.out|apply below_alloc|apply pw_below_drewN|apply below_drew1|refine below_set ?_ h0.out|refine below_set ?_ h1.out|refine below_set ?_ h2.out)|exact HB.out)⟩
 ·rw [if_neg c4] at H
  exact absurd H (by simp)
def nomination_view.l0:Nat→List (S72)→List (S48)→Int→Int→Int→Int→Int→Int→Int→List Int→List (S30)→ByteArray→List ByteArray→List ByteArray→List ByteArray→List (S48)→Option ((List (S87)))
 | 0,_,_,_,_,_,_,_,_,_,_,_,_,_,_,_,_=>none
 | k + 1,x3,x7,x8,x9,k9,p6,p7,p8,l3,l4,l5,p9,q0,q1,q2,q3=>if x9 < x8 then (if 0≤x9 then (if x9 < (x7.length:Int) then (if x3.length < 1172812402961 then (nomination_view.l0 k (x3 ++ [(⟨(rd_T48 x7 x9).f0,(rd_T48 x7 x9).f1,(⟨(rd_T48 x7 x9).f2.f0,(rd_T48 x7 x9).f2.f1,(rd_T48 x7 x9).f2.f2⟩:S30),([]:List (S117)),([]:List (S117))⟩:S72)]) x7 x8 (wrap64 (x9 + 1)) k9 p6 p7 p8 l3 l4 l5 p9 q0 q1 q2 q3) else (none)) else (none)) else (none)) else ((federated_View.f k k9 l3 l4 l5 x3).bind fun h0=>(some h0))
def nomination_view.f (k:Nat) (d9:Int) (e4:Int) (e5:Int) (e6:Int) (e0:Int) (c1:List Int) (d0:List (S30)) (e7:ByteArray) (d4:List ByteArray) (d5:List ByteArray) (d6:List ByteArray) (b0:List (S48)):Option ((List (S87))):=nomination_view.l0 k ([]:List (S72)) b0 (b0.length:Int) 0 d9 e4 e5 e6 e0 c1 d0 e7 d4 d5 d6 b0
theorem nomination_view.mono_l:∀ k,(∀ y0 y1 y2 y3 y4 y5 y6 y7 y8 y9 i5 i6 i7 i8 i9 j2,LeO (nomination_view.l0 k y0 y1 y2 y3 y4 y5 y6 y7 y8 y9 i5 i6 i7 i8 i9 j2) (nomination_view.l0 (k + 1) y0 y1 y2 y3 y4 y5 y6 y7 y8 y9 i5 i6 i7 i8 i9 j2))
 | 0=>fun _ _ _ _ _ _ _ _ _ _ _ _ _ _ _ _ r h=>by simp [nomination_view.l0] at h
 | k + 1=>by
  have j3:=nomination_view.mono_l k
  ·intro y0 y1 y2 y3 y4 y5 y6 y7 y8 y9 i5 i6 i7 i8 i9 j2
   unfold nomination_view.l0
   repeat' first
   | (with_reducible exact j3 _ _ _ _ _ _ _ _ _ _ _ _ _ _ _ _)
   | (with_reducible apply federated_View.mono)
   | (with_reducible exact LeO.refl _)
   | (with_reducible exact LeO.none _)
   | (with_reducible refine LeO.ite ?_ ?_)
   | (with_reducible refine LeO.bind ?_ (fun _=>?_))
theorem nomination_view.mono:∀ a0 a1 a2 a3 a4 a5 a6 a7 a8 a9 j4 j5 k,LeO (nomination_view.f k a0 a1 a2 a3 a4 a5 a6 a7 a8 a9 j4 j5) (nomination_view.f (k + 1) a0 a1 a2 a3 a4 a5 a6 a7 a8 a9 j4 j5):=by
 intro a0 a1 a2 a3 a4 a5 a6 a7 a8 a9 j4 j5 k
 have j3:=nomination_view.mono_l k
 unfold nomination_view.f
 repeat' first
   | (with_reducible exact j3 _ _ _ _ _ _ _ _ _ _ _ _ _ _ _ _)
   | (with_reducible apply federated_View.mono)
   | (with_reducible exact LeO.refl _)
   | (with_reducible exact LeO.none _)
   | (with_reducible refine LeO.ite ?_ ?_)
   | (with_reducible refine LeO.bind ?_ (fun _=>?_))
set_option maxHeartbeats 8000000 in
set_option maxRecDepth 100000 in
theorem nomination_view.calls (k:Nat) (d9:Int) (e4:Int) (e5:Int) (e6:Int) (e0:Int) (g6:Option Addr) (g7:Nat) (c1:List Int) (g8:Option Addr) (g9:Nat) (d0:List (S30)) (e7:ByteArray) (h1:Option Addr) (h2:Nat) (d4:List ByteArray) (h3:Option Addr) (h4:Nat) (d5:List ByteArray) (h5:Option Addr) (h6:Nat) (d6:List ByteArray) (b7:Nat→Prop) (g1:Option Addr) (e8:Nat) (b0:List (S48)) (r:List (S87)) (w:World) (l6:Kd.C (Kd.int .i64) w g6 c1.length c1) (l7:c1.length≤g7) (l8:Kd.C k30 w g8 d0.length d0) (l9:d0.length≤g9) (m0:Kd.C Kd.string w h1 d4.length d4) (m1:d4.length≤h2) (m2:Kd.C Kd.string w h3 d5.length d5) (m3:d5.length≤h4) (m4:Kd.C Kd.string w h5 d6.length d6) (m5:d6.length≤h6) (q4:Kd.V k48 48 w w.heap.size (fun k_=>b7 k_) (.slice g1 b0.length e8) b0) (h:nomination_view.f k d9 e4 e5 e6 e0 c1 d0 e7 d4 d5 d6 b0=some r) :
  Calls Try.prog 24 #[.agg #[.int .i64 d9,.int .i64 e4,.int .i64 e5,.int .i64 e6,.int .i64 e0,.slice g6 c1.length g7,.slice g8 d0.length g9,.string e7,.slice h1 d4.length h2,.slice h3 d5.length h4,.slice h5 d6.length h6,.slice g1 b0.length e8]] w fun e w'=>∃ m6:Value,e = .returned (.agg #[m6])∧Kd.N k87 87 w' w.heap.size (fun k_=>(b7 k_∨w.heap.size≤k_)) m6 r∧Below w.heap.size w w':=by
 have hu33:=Try.underlying33
 have hu53:=Try.underlying53
 have hu48:=Try.underlying48
 have hu30:=Try.underlying30
 have hu72:=Try.underlying72
 have q5:=Aside0.mk l6
 have q6:=Aside0.mk l7
 clear l6 l7
 have q7:=Aside0.mk l8
 have q8:=Aside0.mk l9
 clear l8 l9
 have v0:=Aside0.mk m0
 have v1:=Aside0.mk m1
 clear m0 m1
 have v2:=Aside0.mk m2
 have v4:=Aside0.mk m3
 clear m2 m3
 have v5:=Aside0.mk m4
 have v6:=Aside0.mk m5
 clear m4 m5
 have g2:=Aside0.mk (show Kd.V k48 48 w w.heap.size (fun k_=>(b7 k_∨w.heap.size≤k_)) (.slice g1 b0.length e8) b0 from Kd.V_mono q4 (fun k_ hk=>.inl hk))
 have HB:=Aside0.mk (Below.refl w.heap.size w)
 have H:(nomination_view.l0 k ([]:List (S72)) b0 (b0.length:Int) 0 d9 e4 e5 e6 e0 c1 d0 e7 d4 d5 d6 b0)=some r:=h
 clear h
 have H':=Aside0.mk H
 clear H
 go_enter Try.func24,Try.ntmps24
 go_wp2_with (first|((with_reducible refine gate_dst (N:=1) rfl ?_);refine box_event ?hg (N:=1) ?hd (cs:=#[.int .i64 d9,.int .i64 e4,.int .i64 e5,.int .i64 e6,.int .i64 e0,.slice g6 c1.length g7,.slice g8 d0.length g9,.string e7,.slice h1 d4.length h2,.slice h3 d5.length h4,.slice h5 d6.length h6,.slice g1 b0.length e8]) (t:=33) ?hr ?_;(case hd=>rfl);(case hg=>rfl);(case hr=>first|(go_simp;done)|(go_simp;rfl));intro b4 hg w2 hbox hb;refine ap5 (Kd.V_below (Kd.V_elderB (by (with_reducible repeat (first|apply Kd.V_alloc|apply Kd.V_drewN|apply Kd.V_drew));exact g2.out) b4 (Nat.le_of_eq hg.symm)) hb) (below_step (belowP HB) hb) (hbox) ((by rw [hg];exact (below_size (belowP HB)):w.heap.size≤b4)) ((by rw [hg];exact (below_size (belowP HB)):w.heap.size≤b4)) ?_;clear g2 HB;intro g2 HB b3 GW368 j6;clear hb hbox hg)|((with_reducible refine gate_dst (N:=2) rfl ?_);refine box_event ?hg (N:=2) ?hd (cs:=#[.slice none 0 0]) (t:=53) ?hr ?_;(case hd=>rfl);(case hg=>rfl);(case hr=>first|(go_simp;done)|(go_simp;rfl));intro b5 hg w3 hbox hb;refine ap8 (Kd.V_below (Kd.V_elderB (by (with_reducible repeat (first|apply Kd.V_alloc|apply Kd.V_drewN|apply Kd.V_drew));exact g2.out) b5 (Nat.le_of_eq hg.symm)) hb) (blk_below (blkP b3) hb) (below_step (belowP HB) hb) (hbox) ((by rw [hg];exact (below_size (belowP HB)):w.heap.size≤b5)) ((by rw [hg];exact (below_size (belowP HB)):w.heap.size≤b5)) ((by rw [hg];exact Nat.ne_of_lt (blk_lt (blkP b3)):b4≠b5)) ((by rw [hg];exact Nat.ne_of_gt (blk_lt (blkP b3)):b5≠b4)) ?_;clear g2 b3 HB;intro g2 b3 HB b8 GW369 j7 m7 m8;clear hb hbox hg;have v7:=m7.out;have v8:=m8.out;have q9:w3.cell? ⟨b4,0,none⟩=some (.int .i64 d9):=(blk_cell b3.out 0).trans rfl;have r0:w3.cell? ⟨b4,1,none⟩=some (.int .i64 e4):=(blk_cell b3.out 1).trans rfl;have r1:w3.cell? ⟨b4,2,none⟩=some (.int .i64 e5):=(blk_cell b3.out 2).trans rfl;have r2:w3.cell? ⟨b4,3,none⟩=some (.int .i64 e6):=(blk_cell b3.out 3).trans rfl;have r3:w3.cell? ⟨b4,4,none⟩=some (.int .i64 e0):=(blk_cell b3.out 4).trans rfl;have r4:w3.cell? ⟨b4,5,none⟩=some (.slice g6 c1.length g7):=(blk_cell b3.out 5).trans rfl;have r5:w3.cell? ⟨b4,6,none⟩=some (.slice g8 d0.length g9):=(blk_cell b3.out 6).trans rfl;have r6:w3.cell? ⟨b4,7,none⟩=some (.string e7):=(blk_cell b3.out 7).trans rfl;have r7:w3.cell? ⟨b4,8,none⟩=some (.slice h1 d4.length h2):=(blk_cell b3.out 8).trans rfl;have r8:w3.cell? ⟨b4,9,none⟩=some (.slice h3 d5.length h4):=(blk_cell b3.out 9).trans rfl;have r9:w3.cell? ⟨b4,10,none⟩=some (.slice h5 d6.length h6):=(blk_cell b3.out 10).trans rfl;have s0:w3.cell? ⟨b4,11,none⟩=some (.slice g1 b0.length e8):=(blk_cell b3.out 11).trans rfl;have s1:=blk_frozen b3.out 0;have s2:=blk_frozen b3.out 1;have s3:=blk_frozen b3.out 2;have s4:=blk_frozen b3.out 3;have s5:=blk_frozen b3.out 4;have s6:=blk_frozen b3.out 5;have s7:=blk_frozen b3.out 6;have s8:=blk_frozen b3.out 7;have s9:=blk_frozen b3.out 8;have t0:=blk_frozen b3.out 9;have t1:=blk_frozen b3.out 10;have t2:=blk_frozen b3.out 11))
 go_loopg [3,9] k (fun kq v3 v9 w'=>∃ (f8:List (S72)) (b1:Int),v9 = .int .i64 b1∧Aside0 (nomination_view.l0 kq f8 b0 (b0.length:Int) b1 d9 e4 e5 e6 e0 c1 d0 e7 d4 d5 d6 b0=some r)∧Aside0 (kq≤k)∧Aside0 (Kd.N k72 72 w' w.heap.size (fun k_=>(b7 k_∨w.heap.size≤k_)∧k_≠b4∧k_≠b5) v3 f8)∧Aside0 (Kd.V k48 48 w' w.heap.size (fun k_=>(b7 k_∨w.heap.size≤k_)∧some k_≠(v3:Value).ownBlock∧k_≠b4∧k_≠b5) (.slice g1 b0.length e8) b0)∧Aside0 (Kd.V k48 48 w' w.heap.size (fun k_=>(b7 k_∨w.heap.size≤k_)∧some k_≠(v3:Value).ownBlock∧k_≠b4∧k_≠b5) (.slice g1 b0.length e8) b0)∧Aside0 (w'.heap[b4]? = some (.cells #[.int .i64 d9,.int .i64 e4,.int .i64 e5,.int .i64 e6,.int .i64 e0,(.slice g6 c1.length g7),(.slice g8 d0.length g9),.string e7,(.slice h1 d4.length h2),(.slice h3 d5.length h4),(.slice h5 d6.length h6),(.slice g1 b0.length e8)] 33 (0,0)))∧Aside0 (w'.heap[b5]? = some (.cells #[(.slice none 0 0)] 53 (0,0)))∧Aside0 (Below w.heap.size w w'))
 case atStart=>exact ⟨(([]:List (S72))),(0),tz3,H',⟨Nat.le_refl _⟩,⟨by first|exact Kd.R_nil _ _ _ _ _|exact Kd.N_nil _ _ _ _ _|exact Kd.V_nil _ _ _ _ _|exact Kd.Q_nil _ _ _ _ _|exact Kd.S_nil _ _ _ _ _⟩,⟨by (with_reducible repeat (first|apply Kd.V_alloc|apply Kd.V_drewN|apply Kd.V_drew));exact Kd.V_mono g2.out (fun _ hk=>⟨hk.1.1,⟨tz8,⟨hk.1.2,hk.2⟩⟩⟩)⟩,⟨by (with_reducible repeat (first|apply Kd.V_alloc|apply Kd.V_drewN|apply Kd.V_drew));exact Kd.V_mono g2.out (fun _ hk=>⟨hk.1.1,⟨tz8,⟨hk.1.2,hk.2⟩⟩⟩)⟩,⟨by refine blkQ ?_;exact b3.out⟩,⟨by refine blkQ ?_;exact b8.out⟩,⟨by repeat (first|(with_reducible first|exact HB.out|apply below_alloc|apply pw_below_drewN|apply below_drew1|refine below_set ?_ j6.out|refine below_set ?_ j7.out)|exact HB.out)⟩⟩
 case round=>
  clear H'
  try clear q9
  try clear r0
  try clear r9
  try clear s0
  try clear r1
  try clear r2
  try clear r3
  try clear r4
  try clear r5
  try clear r6
  try clear r7
  try clear r8
  try clear s1
  try clear s2
  try clear t1
  try clear t2
  try clear s3
  try clear s4
  try clear s5
  try clear s6
  try clear s7
  try clear s8
  try clear s9
  try clear t0
  try clear b3
  try clear b8
  try clear HB
  obtain ⟨f8,b1,rfl,HA,m9,b9,d1,e1,b3,b8,HB⟩:=hrel
  cases gk with
  | zero=>exact absurd HA.out (by simp [nomination_view.l0])
  | succ k1=>
   have H:=HA.out
   clear HA
   simp only [nomination_view.l0] at H
   by_cases c6:b1 < (b0.length:Int)
   ·rw [if_pos c6] at H
    have t3:decide (b1 < (b0.length:Int))=true:=decide_eq_true c6
    clear c6
    by_cases c7:0≤b1
    ·rw [if_pos c7] at H
     have w4:decide (0≤b1)=true:=decide_eq_true c7
     clear c7
     by_cases c8:b1 < (b0.length:Int)
     ·rw [if_pos c8] at H
      have w5:decide (b1 < (b0.length:Int))=true:=decide_eq_true c8
      clear c8
      by_cases c9:f8.length < 1172812402961
      ·rw [if_pos c9] at H
       have LMc9:=Aside0.mk c9
       clear c9
       obtain ⟨n0,j8⟩:∃ y_:List (S72),y_=(f8 ++ [(⟨(rd_T48 b0 b1).f0,(rd_T48 b0 b1).f1,(⟨(rd_T48 b0 b1).f2.f0,(rd_T48 b0 b1).f2.f1,(rd_T48 b0 b1).f2.f2⟩:S30),([]:List (S117)),([]:List (S117))⟩:S72)]):=⟨_,rfl⟩
       replace H:(nomination_view.l0 k1 n0 b0 (b0.length:Int) (wrap64 (b1 + 1)) d9 e4 e5 e6 e0 c1 d0 e7 d4 d5 d6 b0)=some r:=rH j8 H
       have t4:=Aside0.mk j8
       clear j8
       have H':=Aside0.mk H
       clear H
       have h8:0≤(b1:Int):=of_decide_eq_true tz2
       have h9:b1 < (b0.length:Int):=of_decide_eq_true tz2
       obtain ⟨j9,d2,d3,d7,d8,e2,e3,e9,f5,t5,w6,w7,w8,t6,t7,t8,t9,n1,n2,n3,n4,n5,n6,n7,n8⟩:=at_T48 (Kd.V_reads' d1.out).2.2 b1 h8 h9
       cases t5
       obtain ⟨w9,hce370,hMe370,h7⟩:=Kd.V_get d1.out z48 b1 h8 (by first|exact h9|exact of_decide_eq_true tz2|(have e_:=(Kd.V_reads' d1.out).1;omega))
       obtain ⟨x0,x1,x2,x4,x5,x6,z0,z1,rfl,k0,k2,k3,k4,k5,k6,k7,k8⟩:=k48_openF hMe370
       have hv370_3:=h7 3 _ rfl
       rw [add_field _ _ 3 (by omega)] at hv370_3
       replace hv370_3:=Option.some.inj (hv370_3.symm.trans t6)
       injection hv370_3 with hva_ hvn_ hvc_
       rw [hva_] at k2
       rw [hvc_] at k0
       have f6:=Aside0.mk (show Kd.V (Kd.int .i64) 3 _ w.heap.size _ _ ((rd_T48 b0 b1).f2.f1) from Kd.V_mk k0 k2)
       clear hva_ hvn_ hvc_ k2 k0
       have hv370_4:=h7 4 _ rfl
       rw [add_field _ _ 4 (by omega)] at hv370_4
       replace hv370_4:=Option.some.inj (hv370_4.symm.trans t7)
       injection hv370_4 with hva_ hvn_ hvc_
       rw [hva_] at k4
       rw [hvc_] at k3
       have f7:=Aside0.mk (show Kd.V k30 30 _ w.heap.size _ _ ((rd_T48 b0 b1).f2.f2) from Kd.V_mk k3 k4)
       clear hva_ hvn_ hvc_ k4 k3
       have hv370_5:=h7 5 _ rfl
       rw [add_field _ _ 5 (by omega)] at hv370_5
       replace hv370_5:=Option.some.inj (hv370_5.symm.trans t8)
       injection hv370_5 with hva_ hvn_ hvc_
       rw [hva_] at k6
       rw [hvc_] at k5
       have f9:=Aside0.mk (show Kd.V Kd.string 9 _ w.heap.size _ _ ((rd_T48 b0 b1).f3) from Kd.V_mk k5 k6)
       clear hva_ hvn_ hvc_ k6 k5
       have hv370_6:=h7 6 _ rfl
       rw [add_field _ _ 6 (by omega)] at hv370_6
       replace hv370_6:=Option.some.inj (hv370_6.symm.trans t9)
       injection hv370_6 with hva_ hvn_ hvc_
       rw [hva_] at k8
       rw [hvc_] at k7
       have g0:=Aside0.mk (show Kd.V Kd.string 9 _ w.heap.size _ _ ((rd_T48 b0 b1).f4) from Kd.V_mk k7 k8)
       clear hva_ hvn_ hvc_ k8 k7 h7 hce370
       have i0:=Aside0.mk n2
       have z2:=Aside0.mk n1
       clear n2 n1
       have i1:=Aside0.mk n4
       have z3:=Aside0.mk n3
       clear n4 n3
       have i2:=Aside0.mk n6
       have z4:=Aside0.mk n5
       clear n6 n5
       have i3:=Aside0.mk n8
       have z5:=Aside0.mk n7
       clear n8 n7
       replace h8:=eq_true h8
       replace h9:=eq_true h9
       go_wp2_with (first|((with_reducible refine gate_dst (N:=5) rfl ?_);refine box_event ?hg (N:=5) ?hd (cs:=#[.int .i64 0,.int .i64 0,.int .i64 0,.slice none 0 0,.slice none 0 0,.slice none 0 0,.slice none 0 0]) (t:=48) ?hr ?_;(case hd=>rfl);(case hg=>rfl);(case hr=>first|(go_simp;done)|(go_simp;rfl));intro b2 hg g3 hbox hb;refine ap21 (Kd.N_below (Kd.N_elderB (by (with_reducible repeat (first|apply Kd.N_alloc|apply Kd.N_drewN|apply Kd.N_drew));exact b9.out) b2 (Nat.le_of_eq hg.symm)) hb) (Kd.V_below (Kd.V_elderB (by (with_reducible repeat (first|apply Kd.V_alloc|apply Kd.V_drewN|apply Kd.V_drew));exact d1.out) b2 (Nat.le_of_eq hg.symm)) hb) (Kd.V_below (Kd.V_elderB (by (with_reducible repeat (first|apply Kd.V_alloc|apply Kd.V_drewN|apply Kd.V_drew));exact e1.out) b2 (Nat.le_of_eq hg.symm)) hb) (Kd.V_below (Kd.V_elderB (by (with_reducible repeat (first|apply Kd.V_alloc|apply Kd.V_drewN|apply Kd.V_drew));exact f6.out) b2 (Nat.le_of_eq hg.symm)) hb) (Kd.V_below (Kd.V_elderB (by (with_reducible repeat (first|apply Kd.V_alloc|apply Kd.V_drewN|apply Kd.V_drew));exact f7.out) b2 (Nat.le_of_eq hg.symm)) hb) (Kd.V_below (Kd.V_elderB (by (with_reducible repeat (first|apply Kd.V_alloc|apply Kd.V_drewN|apply Kd.V_drew));exact f9.out) b2 (Nat.le_of_eq hg.symm)) hb) (Kd.V_below (Kd.V_elderB (by (with_reducible repeat (first|apply Kd.V_alloc|apply Kd.V_drewN|apply Kd.V_drew));exact g0.out) b2 (Nat.le_of_eq hg.symm)) hb) (blk_below (blkP b3) hb) (blk_below (blkP b8) hb) (Kd.C_below (by repeat (first|(with_reducible exact i0.out)|(with_reducible refine Kd.C_alloc ?_ _)|(with_reducible refine Kd.C_drewN ?_ _)|(with_reducible refine Kd.C_drew ?_)|exact i0.out)) hb) (Kd.C_below (by repeat (first|(with_reducible exact i1.out)|(with_reducible refine Kd.C_alloc ?_ _)|(with_reducible refine Kd.C_drewN ?_ _)|(with_reducible refine Kd.C_drew ?_)|exact i1.out)) hb) (Kd.C_below (by repeat (first|(with_reducible exact i2.out)|(with_reducible refine Kd.C_alloc ?_ _)|(with_reducible refine Kd.C_drewN ?_ _)|(with_reducible refine Kd.C_drew ?_)|exact i2.out)) hb) (Kd.C_below (by repeat (first|(with_reducible exact i3.out)|(with_reducible refine Kd.C_alloc ?_ _)|(with_reducible refine Kd.C_drewN ?_ _)|(with_reducible refine Kd.C_drew ?_)|exact i3.out)) hb) (below_step (belowP HB) hb) (hbox) ((by rw [hg];exact (below_size (belowP HB)):w.heap.size≤b2)) ((by rw [hg];exact (below_size (belowP HB)):w.heap.size≤b2)) ((by rw [hg];exact Nat.ne_of_lt (blk_lt (blkP b3)):b4≠b2)) ((by rw [hg];exact Nat.ne_of_gt (blk_lt (blkP b3)):b2≠b4)) ((by rw [hg];exact Nat.ne_of_lt (blk_lt (blkP b8)):b5≠b2)) ((by rw [hg];exact Nat.ne_of_gt (blk_lt (blkP b8)):b2≠b5)) ?_;clear b9 d1 e1 f6 f7 f9 g0 b3 b8 i0 i1 i2 i3 HB;intro b9 d1 e1 f6 f7 f9 g0 b3 b8 i0 i1 i2 i3 HB b6 GW371 u0 g4 u1 g5 u2;clear hb hbox hg;have z6:=u1.out;have z7:=g4.out;have z8:=u2.out;have z9:=g5.out;have A0:g3.cell? ⟨b2,0,none⟩=some (.int .i64 0):=(blk_cell b6.out 0).trans rfl;have A1:g3.cell? ⟨b2,1,none⟩=some (.int .i64 0):=(blk_cell b6.out 1).trans rfl;have A2:g3.cell? ⟨b2,2,none⟩=some (.int .i64 0):=(blk_cell b6.out 2).trans rfl;have A3:g3.cell? ⟨b2,3,none⟩=some (.slice none 0 0):=(blk_cell b6.out 3).trans rfl;have A4:g3.cell? ⟨b2,4,none⟩=some (.slice none 0 0):=(blk_cell b6.out 4).trans rfl;have A5:g3.cell? ⟨b2,5,none⟩=some (.slice none 0 0):=(blk_cell b6.out 5).trans rfl;have A6:g3.cell? ⟨b2,6,none⟩=some (.slice none 0 0):=(blk_cell b6.out 6).trans rfl;have A7:=blk_frozen b6.out 0;have A8:=blk_frozen b6.out 1;have A9:=blk_frozen b6.out 2;have B0:=blk_frozen b6.out 3;have B2:=blk_frozen b6.out 4;have C0:=blk_frozen b6.out 5;have C1:=blk_frozen b6.out 6)|((with_reducible refine gate_store (t:=48) (p:=5) rfl ?_);refine store_event (t:=48) (p:=5) (v:=?vo_w14) (w1:=(((((((g3.setCell ⟨b2,0,none⟩ (.int .i64 ((rd_T48 b0 b1).f0))).setCell ⟨b2,1,none⟩ (.int .i64 ((rd_T48 b0 b1).f1))).setCell ⟨b2,2,none⟩ (.int .i64 ((rd_T48 b0 b1).f2.f0))).setCell ⟨b2,3,none⟩ (.slice d2 ((rd_T48 b0 b1).f2.f1).length d3)).setCell ⟨b2,4,none⟩ (.slice d7 ((rd_T48 b0 b1).f2.f2).length d8)).setCell ⟨b2,5,none⟩ (.slice e2 ((rd_T48 b0 b1).f3).length e3)).setCell ⟨b2,6,none⟩ (.slice e9 ((rd_T48 b0 b1).f4).length f5))) ?hg ?ho ?hn ?hr ?_;(case ho=>rfl);(case hg=>rfl);(case hn=>rfl);(case hr=>first|(go_simp;done)|(go_simp;rfl));intro c0 hw;have n9:Aside0 (Kd.N k72 72 c0 w.heap.size (fun k_=>(b7 k_∨w.heap.size≤k_)∧k_≠b4∧k_≠b5∧k_≠b2) u3 f8):=⟨(by rw [hw];exact (by (with_reducible repeat (first|apply Kd.N_alloc|apply Kd.N_drewN|apply Kd.N_drew));exact Kd.N_mono (Kd.N_far (p:=⟨b2,6,none⟩) (Kd.N_far (p:=⟨b2,5,none⟩) (Kd.N_far (p:=⟨b2,4,none⟩) (Kd.N_far (p:=⟨b2,3,none⟩) (Kd.N_far (p:=⟨b2,2,none⟩) (Kd.N_far (p:=⟨b2,1,none⟩) (Kd.N_far (p:=⟨b2,0,none⟩) (Kd.N_mono b9.out (fun k_ hk=>(⟨hk,hk.2⟩:_∧k_≠b2))) (fun _ hk=>hk.2) (.int .i64 ((rd_T48 b0 b1).f0))) (fun _ hk=>hk.2) (.int .i64 ((rd_T48 b0 b1).f1))) (fun _ hk=>hk.2) (.int .i64 ((rd_T48 b0 b1).f2.f0))) (fun _ hk=>hk.2) (.slice d2 ((rd_T48 b0 b1).f2.f1).length d3)) (fun _ hk=>hk.2) (.slice d7 ((rd_T48 b0 b1).f2.f2).length d8)) (fun _ hk=>hk.2) (.slice e2 ((rd_T48 b0 b1).f3).length e3)) (fun _ hk=>hk.2) (.slice e9 ((rd_T48 b0 b1).f4).length f5)) (fun _ hk=>⟨hk.1.1.1,⟨hk.1.1.2.1,⟨hk.1.1.2.2,hk.1.2⟩⟩⟩)))⟩;have o0:Aside0 (Kd.V k48 48 c0 w.heap.size (fun k_=>(b7 k_∨w.heap.size≤k_)∧some k_≠(u3:Value).ownBlock∧k_≠b4∧k_≠b5∧k_≠b2) (.slice (some j9) b0.length e8) b0):=⟨(by rw [hw];exact (by (with_reducible repeat (first|apply Kd.V_alloc|apply Kd.V_drewN|apply Kd.V_drew));exact Kd.V_mono (Kd.V_far (p:=⟨b2,6,none⟩) (Kd.V_far (p:=⟨b2,5,none⟩) (Kd.V_far (p:=⟨b2,4,none⟩) (Kd.V_far (p:=⟨b2,3,none⟩) (Kd.V_far (p:=⟨b2,2,none⟩) (Kd.V_far (p:=⟨b2,1,none⟩) (Kd.V_far (p:=⟨b2,0,none⟩) (Kd.V_mono d1.out (fun k_ hk=>(⟨hk,hk.2⟩:_∧k_≠b2))) (fun _ hk=>hk.2) (.int .i64 ((rd_T48 b0 b1).f0))) (fun _ hk=>hk.2) (.int .i64 ((rd_T48 b0 b1).f1))) (fun _ hk=>hk.2) (.int .i64 ((rd_T48 b0 b1).f2.f0))) (fun _ hk=>hk.2) (.slice d2 ((rd_T48 b0 b1).f2.f1).length d3)) (fun _ hk=>hk.2) (.slice d7 ((rd_T48 b0 b1).f2.f2).length d8)) (fun _ hk=>hk.2) (.slice e2 ((rd_T48 b0 b1).f3).length e3)) (fun _ hk=>hk.2) (.slice e9 ((rd_T48 b0 b1).f4).length f5)) (fun _ hk=>⟨hk.1.1.1,⟨hk.1.1.2.1,⟨hk.1.1.2.2.1,⟨hk.1.1.2.2.2,hk.1.2⟩⟩⟩⟩)))⟩;have o1:Aside0 (Kd.V k48 48 c0 w.heap.size (fun k_=>(b7 k_∨w.heap.size≤k_)∧some k_≠(u3:Value).ownBlock∧k_≠b4∧k_≠b5∧k_≠b2) (.slice (some j9) b0.length e8) b0):=⟨(by rw [hw];exact (by (with_reducible repeat (first|apply Kd.V_alloc|apply Kd.V_drewN|apply Kd.V_drew));exact Kd.V_mono (Kd.V_far (p:=⟨b2,6,none⟩) (Kd.V_far (p:=⟨b2,5,none⟩) (Kd.V_far (p:=⟨b2,4,none⟩) (Kd.V_far (p:=⟨b2,3,none⟩) (Kd.V_far (p:=⟨b2,2,none⟩) (Kd.V_far (p:=⟨b2,1,none⟩) (Kd.V_far (p:=⟨b2,0,none⟩) (Kd.V_mono e1.out (fun k_ hk=>(⟨hk,hk.2⟩:_∧k_≠b2))) (fun _ hk=>hk.2) (.int .i64 ((rd_T48 b0 b1).f0))) (fun _ hk=>hk.2) (.int .i64 ((rd_T48 b0 b1).f1))) (fun _ hk=>hk.2) (.int .i64 ((rd_T48 b0 b1).f2.f0))) (fun _ hk=>hk.2) (.slice d2 ((rd_T48 b0 b1).f2.f1).length d3)) (fun _ hk=>hk.2) (.slice d7 ((rd_T48 b0 b1).f2.f2).length d8)) (fun _ hk=>hk.2) (.slice e2 ((rd_T48 b0 b1).f3).length e3)) (fun _ hk=>hk.2) (.slice e9 ((rd_T48 b0 b1).f4).length f5)) (fun _ hk=>⟨hk.1.1.1,⟨hk.1.1.2.1,⟨hk.1.1.2.2.1,⟨hk.1.1.2.2.2,hk.1.2⟩⟩⟩⟩)))⟩;have o2:Aside0 (Kd.V (Kd.int .i64) 3 c0 w.heap.size (fun k_=>(b7 k_∨w.heap.size≤k_)∧some k_≠(u3:Value).ownBlock∧k_≠b4∧k_≠b5∧k_≠b2) (.slice d2 ((rd_T48 b0 b1).f2.f1).length d3) ((rd_T48 b0 b1).f2.f1)):=⟨(by rw [hw];exact (by (with_reducible repeat (first|apply Kd.V_alloc|apply Kd.V_drewN|apply Kd.V_drew));exact Kd.V_mono (Kd.V_far (p:=⟨b2,6,none⟩) (Kd.V_far (p:=⟨b2,5,none⟩) (Kd.V_far (p:=⟨b2,4,none⟩) (Kd.V_far (p:=⟨b2,3,none⟩) (Kd.V_far (p:=⟨b2,2,none⟩) (Kd.V_far (p:=⟨b2,1,none⟩) (Kd.V_far (p:=⟨b2,0,none⟩) (Kd.V_mono f6.out (fun k_ hk=>(⟨hk,hk.2⟩:_∧k_≠b2))) (fun _ hk=>hk.2) (.int .i64 ((rd_T48 b0 b1).f0))) (fun _ hk=>hk.2) (.int .i64 ((rd_T48 b0 b1).f1))) (fun _ hk=>hk.2) (.int .i64 ((rd_T48 b0 b1).f2.f0))) (fun _ hk=>hk.2) (.slice d2 ((rd_T48 b0 b1).f2.f1).length d3)) (fun _ hk=>hk.2) (.slice d7 ((rd_T48 b0 b1).f2.f2).length d8)) (fun _ hk=>hk.2) (.slice e2 ((rd_T48 b0 b1).f3).length e3)) (fun _ hk=>hk.2) (.slice e9 ((rd_T48 b0 b1).f4).length f5)) (fun _ hk=>⟨hk.1.1.1,⟨hk.1.1.2.1,⟨hk.1.1.2.2.1,⟨hk.1.1.2.2.2,hk.1.2⟩⟩⟩⟩)))⟩;have o3:Aside0 (Kd.V k30 30 c0 w.heap.size (fun k_=>(b7 k_∨w.heap.size≤k_)∧some k_≠(u3:Value).ownBlock∧k_≠b4∧k_≠b5∧k_≠b2) (.slice d7 ((rd_T48 b0 b1).f2.f2).length d8) ((rd_T48 b0 b1).f2.f2)):=⟨(by rw [hw];exact (by (with_reducible repeat (first|apply Kd.V_alloc|apply Kd.V_drewN|apply Kd.V_drew));exact Kd.V_mono (Kd.V_far (p:=⟨b2,6,none⟩) (Kd.V_far (p:=⟨b2,5,none⟩) (Kd.V_far (p:=⟨b2,4,none⟩) (Kd.V_far (p:=⟨b2,3,none⟩) (Kd.V_far (p:=⟨b2,2,none⟩) (Kd.V_far (p:=⟨b2,1,none⟩) (Kd.V_far (p:=⟨b2,0,none⟩) (Kd.V_mono f7.out (fun k_ hk=>(⟨hk,hk.2⟩:_∧k_≠b2))) (fun _ hk=>hk.2) (.int .i64 ((rd_T48 b0 b1).f0))) (fun _ hk=>hk.2) (.int .i64 ((rd_T48 b0 b1).f1))) (fun _ hk=>hk.2) (.int .i64 ((rd_T48 b0 b1).f2.f0))) (fun _ hk=>hk.2) (.slice d2 ((rd_T48 b0 b1).f2.f1).length d3)) (fun _ hk=>hk.2) (.slice d7 ((rd_T48 b0 b1).f2.f2).length d8)) (fun _ hk=>hk.2) (.slice e2 ((rd_T48 b0 b1).f3).length e3)) (fun _ hk=>hk.2) (.slice e9 ((rd_T48 b0 b1).f4).length f5)) (fun _ hk=>⟨hk.1.1.1,⟨hk.1.1.2.1,⟨hk.1.1.2.2.1,⟨hk.1.1.2.2.2,hk.1.2⟩⟩⟩⟩)))⟩;have o4:Aside0 (Kd.V Kd.string 9 c0 w.heap.size (fun k_=>(b7 k_∨w.heap.size≤k_)∧some k_≠(u3:Value).ownBlock∧k_≠b4∧k_≠b5∧k_≠b2) (.slice e2 ((rd_T48 b0 b1).f3).length e3) ((rd_T48 b0 b1).f3)):=⟨(by rw [hw];exact (by (with_reducible repeat (first|apply Kd.V_alloc|apply Kd.V_drewN|apply Kd.V_drew));exact Kd.V_mono (Kd.V_far (p:=⟨b2,6,none⟩) (Kd.V_far (p:=⟨b2,5,none⟩) (Kd.V_far (p:=⟨b2,4,none⟩) (Kd.V_far (p:=⟨b2,3,none⟩) (Kd.V_far (p:=⟨b2,2,none⟩) (Kd.V_far (p:=⟨b2,1,none⟩) (Kd.V_far (p:=⟨b2,0,none⟩) (Kd.V_mono f9.out (fun k_ hk=>(⟨hk,hk.2⟩:_∧k_≠b2))) (fun _ hk=>hk.2) (.int .i64 ((rd_T48 b0 b1).f0))) (fun _ hk=>hk.2) (.int .i64 ((rd_T48 b0 b1).f1))) (fun _ hk=>hk.2) (.int .i64 ((rd_T48 b0 b1).f2.f0))) (fun _ hk=>hk.2) (.slice d2 ((rd_T48 b0 b1).f2.f1).length d3)) (fun _ hk=>hk.2) (.slice d7 ((rd_T48 b0 b1).f2.f2).length d8)) (fun _ hk=>hk.2) (.slice e2 ((rd_T48 b0 b1).f3).length e3)) (fun _ hk=>hk.2) (.slice e9 ((rd_T48 b0 b1).f4).length f5)) (fun _ hk=>⟨hk.1.1.1,⟨hk.1.1.2.1,⟨hk.1.1.2.2.1,⟨hk.1.1.2.2.2,hk.1.2⟩⟩⟩⟩)))⟩;have o5:Aside0 (Kd.V Kd.string 9 c0 w.heap.size (fun k_=>(b7 k_∨w.heap.size≤k_)∧some k_≠(u3:Value).ownBlock∧k_≠b4∧k_≠b5∧k_≠b2) (.slice e9 ((rd_T48 b0 b1).f4).length f5) ((rd_T48 b0 b1).f4)):=⟨(by rw [hw];exact (by (with_reducible repeat (first|apply Kd.V_alloc|apply Kd.V_drewN|apply Kd.V_drew));exact Kd.V_mono (Kd.V_far (p:=⟨b2,6,none⟩) (Kd.V_far (p:=⟨b2,5,none⟩) (Kd.V_far (p:=⟨b2,4,none⟩) (Kd.V_far (p:=⟨b2,3,none⟩) (Kd.V_far (p:=⟨b2,2,none⟩) (Kd.V_far (p:=⟨b2,1,none⟩) (Kd.V_far (p:=⟨b2,0,none⟩) (Kd.V_mono g0.out (fun k_ hk=>(⟨hk,hk.2⟩:_∧k_≠b2))) (fun _ hk=>hk.2) (.int .i64 ((rd_T48 b0 b1).f0))) (fun _ hk=>hk.2) (.int .i64 ((rd_T48 b0 b1).f1))) (fun _ hk=>hk.2) (.int .i64 ((rd_T48 b0 b1).f2.f0))) (fun _ hk=>hk.2) (.slice d2 ((rd_T48 b0 b1).f2.f1).length d3)) (fun _ hk=>hk.2) (.slice d7 ((rd_T48 b0 b1).f2.f2).length d8)) (fun _ hk=>hk.2) (.slice e2 ((rd_T48 b0 b1).f3).length e3)) (fun _ hk=>hk.2) (.slice e9 ((rd_T48 b0 b1).f4).length f5)) (fun _ hk=>⟨hk.1.1.1,⟨hk.1.1.2.1,⟨hk.1.1.2.2.1,⟨hk.1.1.2.2.2,hk.1.2⟩⟩⟩⟩)))⟩;have o6:Aside0 (c0.heap[b4]? = some (.cells #[.int .i64 d9,.int .i64 e4,.int .i64 e5,.int .i64 e6,.int .i64 e0,.slice g6 c1.length g7,.slice g8 d0.length g9,.string e7,.slice h1 d4.length h2,.slice h3 d5.length h4,.slice h5 d6.length h6,.slice (some j9) b0.length e8] 33 (0,0))):=⟨(by rw [hw];exact (by refine blkQ ?_;refine blk_far ?_ g4.out _;refine blkQ ?_;refine blk_far ?_ g4.out _;refine blkQ ?_;refine blk_far ?_ g4.out _;refine blkQ ?_;refine blk_far ?_ g4.out _;refine blkQ ?_;refine blk_far ?_ g4.out _;refine blkQ ?_;refine blk_far ?_ g4.out _;refine blkQ ?_;refine blk_far ?_ g4.out _;refine blkQ ?_;exact b3.out))⟩;have o7:Aside0 (c0.heap[b5]? = some (.cells #[.slice none 0 0] 53 (0,0))):=⟨(by rw [hw];exact (by refine blkQ ?_;refine blk_far ?_ g5.out _;refine blkQ ?_;refine blk_far ?_ g5.out _;refine blkQ ?_;refine blk_far ?_ g5.out _;refine blkQ ?_;refine blk_far ?_ g5.out _;refine blkQ ?_;refine blk_far ?_ g5.out _;refine blkQ ?_;refine blk_far ?_ g5.out _;refine blkQ ?_;refine blk_far ?_ g5.out _;refine blkQ ?_;exact b8.out))⟩;have o8:Aside0 (c0.heap[b2]? = some (.cells #[.int .i64 ((rd_T48 b0 b1).f0),.int .i64 ((rd_T48 b0 b1).f1),.int .i64 ((rd_T48 b0 b1).f2.f0),.slice d2 ((rd_T48 b0 b1).f2.f1).length d3,.slice d7 ((rd_T48 b0 b1).f2.f2).length d8,.slice e2 ((rd_T48 b0 b1).f3).length e3,.slice e9 ((rd_T48 b0 b1).f4).length f5] 48 (0,0))):=⟨(by rw [hw];exact (by refine blkQ ?_;refine blk_put (cs:=#[.int .i64 ((rd_T48 b0 b1).f0),.int .i64 ((rd_T48 b0 b1).f1),.int .i64 ((rd_T48 b0 b1).f2.f0),.slice d2 ((rd_T48 b0 b1).f2.f1).length d3,.slice d7 ((rd_T48 b0 b1).f2.f2).length d8,.slice e2 ((rd_T48 b0 b1).f3).length e3,.slice none 0 0]) ?_ 6 _ rfl;refine blkQ ?_;refine blk_put (cs:=#[.int .i64 ((rd_T48 b0 b1).f0),.int .i64 ((rd_T48 b0 b1).f1),.int .i64 ((rd_T48 b0 b1).f2.f0),.slice d2 ((rd_T48 b0 b1).f2.f1).length d3,.slice d7 ((rd_T48 b0 b1).f2.f2).length d8,.slice none 0 0,.slice none 0 0]) ?_ 5 _ rfl;refine blkQ ?_;refine blk_put (cs:=#[.int .i64 ((rd_T48 b0 b1).f0),.int .i64 ((rd_T48 b0 b1).f1),.int .i64 ((rd_T48 b0 b1).f2.f0),.slice d2 ((rd_T48 b0 b1).f2.f1).length d3,.slice none 0 0,.slice none 0 0,.slice none 0 0]) ?_ 4 _ rfl;refine blkQ ?_;refine blk_put (cs:=#[.int .i64 ((rd_T48 b0 b1).f0),.int .i64 ((rd_T48 b0 b1).f1),.int .i64 ((rd_T48 b0 b1).f2.f0),.slice none 0 0,.slice none 0 0,.slice none 0 0,.slice none 0 0]) ?_ 3 _ rfl;refine blkQ ?_;refine blk_put (cs:=#[.int .i64 ((rd_T48 b0 b1).f0),.int .i64 ((rd_T48 b0 b1).f1),.int .i64 0,.slice none 0 0,.slice none 0 0,.slice none 0 0,.slice none 0 0]) ?_ 2 _ rfl;refine blkQ ?_;refine blk_put (cs:=#[.int .i64 ((rd_T48 b0 b1).f0),.int .i64 0,.int .i64 0,.slice none 0 0,.slice none 0 0,.slice none 0 0,.slice none 0 0]) ?_ 1 _ rfl;refine blkQ ?_;refine blk_put (cs:=#[.int .i64 0,.int .i64 0,.int .i64 0,.slice none 0 0,.slice none 0 0,.slice none 0 0,.slice none 0 0]) ?_ 0 _ rfl;refine blkQ ?_;exact b6.out))⟩;have o9:Aside0 (Below w.heap.size w c0):=⟨(by rw [hw];exact (belowP HB))⟩;clear hw b9 d1 e1 f6 f7 f9 g0 b3 b8 b6 HB;have b9:=n9;have d1:=o0;have e1:=o1;have f6:=o2;have f7:=o3;have f9:=o4;have g0:=o5;have b3:=o6;have b8:=o7;have b6:=o8;have HB:=o9;clear n9 o0 o1 o2 o3 o4 o5 o6 o7 o8 o9;have C2:c0.cell? ⟨b2,0,none⟩=some (.int .i64 ((rd_T48 b0 b1).f0)):=(blk_cell b6.out 0).trans rfl;have C3:c0.cell? ⟨b2,1,none⟩=some (.int .i64 ((rd_T48 b0 b1).f1)):=(blk_cell b6.out 1).trans rfl;have C4:c0.cell? ⟨b2,2,none⟩=some (.int .i64 ((rd_T48 b0 b1).f2.f0)):=(blk_cell b6.out 2).trans rfl;have C5:c0.cell? ⟨b2,3,none⟩=some (.slice d2 ((rd_T48 b0 b1).f2.f1).length d3):=(blk_cell b6.out 3).trans rfl;have C6:c0.cell? ⟨b2,4,none⟩=some (.slice d7 ((rd_T48 b0 b1).f2.f2).length d8):=(blk_cell b6.out 4).trans rfl;have C7:c0.cell? ⟨b2,5,none⟩=some (.slice e2 ((rd_T48 b0 b1).f3).length e3):=(blk_cell b6.out 5).trans rfl;have C8:c0.cell? ⟨b2,6,none⟩=some (.slice e9 ((rd_T48 b0 b1).f4).length f5):=(blk_cell b6.out 6).trans rfl;have C9:=blk_frozen b6.out 0;have D0:=blk_frozen b6.out 1;have D1:=blk_frozen b6.out 2;have D2:=blk_frozen b6.out 3;have D3:=blk_frozen b6.out 4;have D4:=blk_frozen b6.out 5;have D5:=blk_frozen b6.out 6)|((with_reducible refine gate_builtin (b:=.append) (xs:=#[.tmp 13,.tmp 21]) rfl ?_);at_builtin;refine Kd.N_append k72 (w0:=w) w.heap.size rfl (.tmp 13) (.tmp 21) 69 72 (.agg #[(.int .i64 0),(.int .i64 0),(.int .i64 0),(.slice none 0 0),(.slice none 0 0),(.slice none 0 0),(.slice none 0 0)]) 120 rfl Try.underlying69 info72 rfl (by decide) (by omega) u3 f8 (⟨(rd_T48 b0 b1).f0,(rd_T48 b0 b1).f1,(⟨(rd_T48 b0 b1).f2.f0,(rd_T48 b0 b1).f2.f1,(rd_T48 b0 b1).f2.f2⟩:S30),([]:List (S117)),([]:List (S117))⟩:S72) [.int .i64 ((rd_T48 b0 b1).f0),.int .i64 ((rd_T48 b0 b1).f1),.int .i64 ((rd_T48 b0 b1).f2.f0),.slice d2 ((rd_T48 b0 b1).f2.f1).length d3,.slice d7 ((rd_T48 b0 b1).f2.f2).length d8,.slice none 0 0,.slice none 0 0] (fun k_=>(b7 k_∨w.heap.size≤k_)∧k_≠b4∧k_≠b5∧k_≠b2) (fun k_=>((fun k_=>(b7 k_∨w.heap.size≤k_)∧k_≠b4∧k_≠b5∧k_≠b2)) k_∧some k_≠(u3:Value).ownBlock) rfl rfl ?aP (fun _ hk=>hk) ?aF ?aO ?aB ?aS ?aL ?_;(case aP=>exact (k72_mkF _ _ (⟨(rd_T48 b0 b1).f0,(rd_T48 b0 b1).f1,(⟨(rd_T48 b0 b1).f2.f0,(rd_T48 b0 b1).f2.f1,(rd_T48 b0 b1).f2.f2⟩:S30),([]:List (S117)),([]:List (S117))⟩:S72) (Kd.V_reads' (Kd.V_mono (ok':=(fun k_=>((fun k_=>(b7 k_∨w.heap.size≤k_)∧k_≠b4∧k_≠b5∧k_≠b2)) k_∧some k_≠(u3:Value).ownBlock)) (f6.out) (fun k_ hk=>⟨⟨hk.1,⟨hk.2.2.1,⟨hk.2.2.2.1,hk.2.2.2.2⟩⟩⟩,hk.2.1⟩))).2.1 (Kd.V_F (Kd.V_mono (ok':=(fun k_=>((fun k_=>(b7 k_∨w.heap.size≤k_)∧k_≠b4∧k_≠b5∧k_≠b2)) k_∧some k_≠(u3:Value).ownBlock)) (f6.out) (fun k_ hk=>⟨⟨hk.1,⟨hk.2.2.1,⟨hk.2.2.2.1,hk.2.2.2.2⟩⟩⟩,hk.2.1⟩))) (Kd.V_reads' (Kd.V_mono (ok':=(fun k_=>((fun k_=>(b7 k_∨w.heap.size≤k_)∧k_≠b4∧k_≠b5∧k_≠b2)) k_∧some k_≠(u3:Value).ownBlock)) (f7.out) (fun k_ hk=>⟨⟨hk.1,⟨hk.2.2.1,⟨hk.2.2.2.1,hk.2.2.2.2⟩⟩⟩,hk.2.1⟩))).2.1 (Kd.V_F (Kd.V_mono (ok':=(fun k_=>((fun k_=>(b7 k_∨w.heap.size≤k_)∧k_≠b4∧k_≠b5∧k_≠b2)) k_∧some k_≠(u3:Value).ownBlock)) (f7.out) (fun k_ hk=>⟨⟨hk.1,⟨hk.2.2.1,⟨hk.2.2.2.1,hk.2.2.2.2⟩⟩⟩,hk.2.1⟩))) (Nat.le_refl _) (Kd.F_nil _ _ _) (Nat.le_refl _) (Kd.F_nil _ _ _)));(case aB=>exact (belowP HB));(case aF=>exact (fun k_ hk=>⟨(.inr (Nat.le_trans (below_size (belowP HB)) hk)),Kd.freshB (blkP b3) k_ hk,Kd.freshB (blkP b8) k_ hk,Kd.freshB (blkP b6) k_ hk⟩));(case aO=>exact (by (with_reducible repeat (first|apply Kd.N_alloc|apply Kd.N_drewN|apply Kd.N_drew));exact b9.out));(case aS=>exact (below_size (belowP HB)));(case aL=>have:=LMc9.out;omega);intro D6 D7 ho hb hg hat;rw [← t4.out] at ho;refine ap11 (Kd.V_afterv (ok:=(fun k_=>(b7 k_∨w.heap.size≤k_)∧k_≠b4∧k_≠b5∧k_≠b2)) (by (with_reducible repeat (first|apply Kd.V_alloc|apply Kd.V_drewN|apply Kd.V_drew));exact Kd.V_mono d1.out (fun _ hk=>⟨⟨hk.1,⟨hk.2.2.1,⟨hk.2.2.2.1,hk.2.2.2.2⟩⟩⟩,hk.2.1⟩)) hg hat) (Kd.V_afterv (ok:=(fun k_=>(b7 k_∨w.heap.size≤k_)∧k_≠b4∧k_≠b5∧k_≠b2)) (by (with_reducible repeat (first|apply Kd.V_alloc|apply Kd.V_drewN|apply Kd.V_drew));exact Kd.V_mono e1.out (fun _ hk=>⟨⟨hk.1,⟨hk.2.2.1,⟨hk.2.2.2.1,hk.2.2.2.2⟩⟩⟩,hk.2.1⟩)) hg hat) (blk_grown (blkP b3) hg (Kd.N_ne b9.out b3.out (by decide))) (blk_grown (blkP b8) hg (Kd.N_ne b9.out b8.out (by decide))) (Kd.V_afterv (ok:=(fun k_=>(b7 k_∨w.heap.size≤k_)∧k_≠b4∧k_≠b5∧k_≠b2)) (by (with_reducible repeat (first|apply Kd.V_alloc|apply Kd.V_drewN|apply Kd.V_drew));exact Kd.V_mono f6.out (fun _ hk=>⟨⟨hk.1,⟨hk.2.2.1,⟨hk.2.2.2.1,hk.2.2.2.2⟩⟩⟩,hk.2.1⟩)) hg hat) (Kd.V_afterv (ok:=(fun k_=>(b7 k_∨w.heap.size≤k_)∧k_≠b4∧k_≠b5∧k_≠b2)) (by (with_reducible repeat (first|apply Kd.V_alloc|apply Kd.V_drewN|apply Kd.V_drew));exact Kd.V_mono f7.out (fun _ hk=>⟨⟨hk.1,⟨hk.2.2.1,⟨hk.2.2.2.1,hk.2.2.2.2⟩⟩⟩,hk.2.1⟩)) hg hat) (Kd.V_afterv (ok:=(fun k_=>(b7 k_∨w.heap.size≤k_)∧k_≠b4∧k_≠b5∧k_≠b2)) (by (with_reducible repeat (first|apply Kd.V_alloc|apply Kd.V_drewN|apply Kd.V_drew));exact Kd.V_mono f9.out (fun _ hk=>⟨⟨hk.1,⟨hk.2.2.1,⟨hk.2.2.2.1,hk.2.2.2.2⟩⟩⟩,hk.2.1⟩)) hg hat) (Kd.V_afterv (ok:=(fun k_=>(b7 k_∨w.heap.size≤k_)∧k_≠b4∧k_≠b5∧k_≠b2)) (by (with_reducible repeat (first|apply Kd.V_alloc|apply Kd.V_drewN|apply Kd.V_drew));exact Kd.V_mono g0.out (fun _ hk=>⟨⟨hk.1,⟨hk.2.2.1,⟨hk.2.2.2.1,hk.2.2.2.2⟩⟩⟩,hk.2.1⟩)) hg hat) (blk_grown (blkP b6) hg (Kd.N_ne b9.out b6.out (by decide))) (hb) (ho) ?_;clear d1 e1 b3 b8 f6 f7 f9 g0 b6 HB b9;intro d1 e1 b3 b8 f6 f7 f9 g0 b6 HB u4;clear ho hb hg hat))
       go_roundg k1
       case measure=>have:=m9.out;omega
       case rel=>exact ⟨(n0),(wrap64 (b1 + 1)),tz3,H',⟨by have:=m9.out;omega⟩,⟨by (with_reducible repeat (first|apply Kd.N_alloc|apply Kd.N_drewN|apply Kd.N_drew));exact Kd.N_mono u4.out (fun _ hk=>⟨hk.1,⟨hk.2.1,hk.2.2.1⟩⟩)⟩,⟨by (with_reducible repeat (first|apply Kd.V_alloc|apply Kd.V_drewN|apply Kd.V_drew));exact Kd.V_mono d1.out (fun _ hk=>⟨hk.1.1,⟨hk.2,⟨hk.1.2.1,hk.1.2.2.1⟩⟩⟩)⟩,⟨by (with_reducible repeat (first|apply Kd.V_alloc|apply Kd.V_drewN|apply Kd.V_drew));exact Kd.V_mono e1.out (fun _ hk=>⟨hk.1.1,⟨hk.2,⟨hk.1.2.1,hk.1.2.2.1⟩⟩⟩)⟩,⟨by refine blkQ ?_;exact b3.out⟩,⟨by refine blkQ ?_;exact b8.out⟩,⟨by repeat (first|(with_reducible first|exact HB.out|apply below_alloc|apply pw_below_drewN|apply below_drew1|refine below_set ?_ j6.out|refine below_set ?_ j7.out|refine below_set ?_ u0.out)|exact HB.out)⟩⟩
      ·rw [if_neg c9] at H
       exact absurd H (by simp)
     ·rw [if_neg c8] at H
      exact absurd H (by simp)
    ·rw [if_neg c7] at H
     exact absurd H (by simp)
   ·rw [if_neg c6] at H
    have t3:decide (b1 < (b0.length:Int))=false:=decide_eq_false c6
    clear c6
    replace H:=Option.bind_eq_some_iff.mp H
    obtain ⟨h0,p0,H⟩:=H
    replace H:(some h0)=some r:=H
    have u5:=Aside0.mk p0
    clear p0
    obtain rfl:=Option.some.inj H
    have D8:=m7.out
    have D9:=m8.out
    obtain ⟨E0,E1,E2,E3,E4,E5,E6,E7,E8,E9,F0,F1⟩:=cells12 b3.out
    obtain ⟨F2,F3,F4,F5,F6,F7,F8,F9,G0,G1,G2,G3⟩:=froz12 b3.out
    obtain ⟨p1,p2,u6⟩:=Kd.N_slice b9.out
    subst u6
    go_wp2_with (first|((with_reducible refine gate_callee (f:=41) rfl ?_);refine goesL_ (some 29) rfl rfl Try.func41 (by kernel_rfl) rfl #[.int .i64 d9,.agg #[.int .i64 e0,.slice g6 c1.length g7,.slice g8 d0.length g9],.slice p1 f8.length p2] rfl tz0 ?_;(with_reducible refine (federated_View.calls k1 d9 e0 _ _ c1 _ _ d0 _ _ f8 h0 _ ?side1 ?side2 ?side3 ?side4 ?side5 ?side6 u5.out).mono ?_);(case side1=>exact Kd.C_q (Kd.C_below q5.out HB.out));(case side2=>exact q6.out);(case side3=>exact Kd.C_q (Kd.C_below q7.out HB.out));(case side4=>exact q8.out);(case side5=>exact Kd.C_q ((Kd.N_reads' b9.out).2.2));(case side6=>exact (Kd.N_reads' b9.out).2.1);rintro e u7 ⟨G4,rfl,i4,hb⟩;refine ⟨_,rfl,?_⟩;refine ap7 (Kd.N_elder' (by (with_reducible repeat (first|apply Kd.N_alloc|apply Kd.N_drewN|apply Kd.N_drew));exact b9.out) (Kd.N_base i4) hb) (Kd.V_elder' (by (with_reducible repeat (first|apply Kd.V_alloc|apply Kd.V_drewN|apply Kd.V_drew));exact d1.out) (Kd.N_base i4) hb) (Kd.V_elder' (by (with_reducible repeat (first|apply Kd.V_alloc|apply Kd.V_drewN|apply Kd.V_drew));exact e1.out) (Kd.N_base i4) hb) (Kd.N_lower (Kd.N_mono (ok':=fun k_=>(b7 k_∨w.heap.size≤k_)∧some k_≠(.slice p1 f8.length p2:Value).ownBlock∧k_≠b4∧k_≠b5) i4 (fun k_ hk_=>⟨(.inr (Nat.le_trans (below_size (belowP HB)) hk_)),(Kd.fresh' (Kd.N_lt (by (with_reducible repeat (first|apply Kd.N_alloc|apply Kd.N_drewN|apply Kd.N_drew));exact b9.out)) k_ hk_),(Kd.freshB (blkP b3) k_ hk_),(Kd.freshB (blkP b8) k_ hk_)⟩)) (below_size (belowP HB))) (blk_below (blkP b3) hb) (blk_below (blkP b8) hb) (below_step (belowP HB) hb) ?_;clear b9 d1 e1 b3 b8 HB;intro b9 d1 e1 p3 b3 b8 HB;obtain ⟨p4,p5,u9⟩:=Kd.N_slice p3.out;subst u9;have G5:u7.cell? ⟨b5,0,none⟩=some (.slice none 0 0):=(blk_cell b8.out 0).trans rfl;have G6:=blk_frozen b8.out 0))
    refine bodyPost_ret (results_cell_row rfl _ _ b5 53 #[.slice p4 h0.length p5] (0,0) _ rfl (by refine blkQ ?_;refine blk_put (cs:=#[.slice none 0 0]) ?_ 0 _ rfl;refine blkQ ?_;exact b8.out) Try.underlying53 rfl (by kernel_rfl)) rfl ?_
    exact ⟨_,rE,by (with_reducible repeat (first|apply Kd.N_alloc|apply Kd.N_drewN|apply Kd.N_drew));exact Kd.N_mono (Kd.N_far (p:=⟨b5,0,none⟩) (Kd.N_mono p3.out (fun k_ hk=>(⟨hk,hk.2.2.2⟩:_∧k_≠b5))) (fun _ hk=>hk.2) (.slice p4 h0.length p5)) (fun _ hk=>hk.1.1),by repeat (first|(with_reducible first|exact HB.out|apply below_alloc|apply pw_below_drewN|apply below_drew1|refine below_set ?_ j6.out|refine below_set ?_ j7.out)|exact HB.out)⟩
def leaders_asked.j0:Nat→Int→Int→Bool→Option (Int)
 | 0,_,_,_=>none
 | k + 1,x2,x3,e7=>if e7=true then (some 5) else (if x2 < 0 then (some 1) else (if x2 > 1000000 then (some 1) else (if x3 < 1 then (some 1) else (if x3 > 1000 then (some 1) else (some 0)))))
def leaders_asked.f (k:Nat) (b0:Int) (a7:List Int) (a8:List (S30)) (a1:Int) (a2:Int) (a3:Int):Option (Int):=(threshold_Valid.f k b0 a7 a8).bind fun a9=>(if a9=0 then (if a1 < 0 then (leaders_asked.j0 k a2 a3 true) else (leaders_asked.j0 k a2 a3 (decide (a1≥10)))) else (some a9))
theorem leaders_asked.mono_l:∀ k,(∀ y0 y1 y2,LeO (leaders_asked.j0 k y0 y1 y2) (leaders_asked.j0 (k + 1) y0 y1 y2))
 | 0=>fun _ _ _ r h=>by simp [leaders_asked.j0] at h
 | k + 1=>by
  have d3:=leaders_asked.mono_l k
  ·intro y0 y1 y2
   unfold leaders_asked.j0
   repeat' first
   | (with_reducible exact d3 _ _ _)
   | (with_reducible apply threshold_Valid.mono)
   | (with_reducible exact LeO.refl _)
   | (with_reducible exact LeO.none _)
   | (with_reducible refine LeO.ite ?_ ?_)
   | (with_reducible refine LeO.bind ?_ (fun _=>?_))
theorem leaders_asked.mono:∀ a0 a1 a2 a3 a4 a5 k,LeO (leaders_asked.f k a0 a1 a2 a3 a4 a5) (leaders_asked.f (k + 1) a0 a1 a2 a3 a4 a5):=by
 intro a0 a1 a2 a3 a4 a5 k
 have d3:=leaders_asked.mono_l k
 unfold leaders_asked.f
 repeat' first
   | (with_reducible exact d3 _ _ _)
   | (with_reducible apply threshold_Valid.mono)
   | (with_reducible exact LeO.refl _)
   | (with_reducible exact LeO.none _)
   | (with_reducible refine LeO.ite ?_ ?_)
   | (with_reducible refine LeO.bind ?_ (fun _=>?_))
set_option maxHeartbeats 8000000 in
set_option maxRecDepth 100000 in
theorem leaders_asked.calls (k:Nat) (b0:Int) (b3:Option Addr) (b4:Nat) (a7:List Int) (b5:Option Addr) (b6:Nat) (a8:List (S30)) (a1:Int) (a2:Int) (a3:Int) (r:Int) (w:World) (d6:Kd.C (Kd.int .i64) w b3 a7.length a7) (d7:a7.length≤b4) (d8:Kd.C k30 w b5 a8.length a8) (d9:a8.length≤b6) (h:leaders_asked.f k b0 a7 a8 a1 a2 a3=some r) :
  Calls Try.prog 49 #[.agg #[.int .i64 b0,.slice b3 a7.length b4,.slice b5 a8.length b6],.int .i64 a1,.int .i64 a2,.int .i64 a3] w fun e w'=>e = .returned (.int .i64 r)∧Below w.heap.size w w':=by
 have hu30:=Try.underlying30
 have e0:=Aside0.mk d6
 have e1:=Aside0.mk d7
 clear d6 d7
 have e2:=Aside0.mk d8
 have e3:=Aside0.mk d9
 clear d8 d9
 have HB:=Aside0.mk (Below.refl w.heap.size w)
 have H:((threshold_Valid.f k b0 a7 a8).bind fun a9=>(if a9=0 then (if a1 < 0 then (leaders_asked.j0 k a2 a3 true) else (leaders_asked.j0 k a2 a3 (decide (a1≥10)))) else (some a9)))=some r:=h
 clear h
 replace H:=Option.bind_eq_some_iff.mp H
 obtain ⟨a9,e4,H⟩:=H
 replace H:(if a9=0 then (if a1 < 0 then (leaders_asked.j0 k a2 a3 true) else (leaders_asked.j0 k a2 a3 (decide (a1≥10)))) else (some a9))=some r:=H
 have A5:=Aside0.mk e4
 clear e4
 by_cases c6:a9=0
 ·rw [if_pos c6] at H
  have e5:(a9 == 0)=true:=beq_iff_eq.mpr c6
  have e6:(a9 != 0)=false:=bne_eq_false_iff_eq.mpr c6
  clear c6
  have d4:=Aside0.mk H
  clear H
  go_enter Try.func49,Try.ntmps49
  go_upto_region 4 with (first|((with_reducible refine gate_dst (N:=4) rfl ?_);refine box_event ?hg (N:=4) ?hd (cs:=#[.int .i64 b0,.slice b3 a7.length b4,.slice b5 a8.length b6]) (t:=30) ?hr ?_;(case hd=>rfl);(case hg=>rfl);(case hr=>first|(go_simp;done)|(go_simp;rfl));intro b1 hg w8 hbox hb;refine ap4 (below_step (belowP HB) hb) (hbox) ((by rw [hg];exact (below_size (belowP HB)):w.heap.size≤b1)) ((by rw [hg];exact (below_size (belowP HB)):w.heap.size≤b1)) ?_;clear HB;intro HB a6 GW240 b2;clear hb hbox hg;have e8:w8.cell? ⟨b1,0,none⟩=some (.int .i64 b0):=(blk_cell a6.out 0).trans rfl;have e9:w8.cell? ⟨b1,1,none⟩=some (.slice b3 a7.length b4):=(blk_cell a6.out 1).trans rfl;have f0:w8.cell? ⟨b1,2,none⟩=some (.slice b5 a8.length b6):=(blk_cell a6.out 2).trans rfl;have f1:=blk_frozen a6.out 0;have f2:=blk_frozen a6.out 1;have f3:=blk_frozen a6.out 2)|((with_reducible refine gate_callee (f:=11) rfl ?_);refine goesL_ (some 11) rfl rfl Try.func11 (by kernel_rfl) rfl #[.agg #[.int .i64 b0,.slice b3 a7.length b4,.slice b5 a8.length b6]] rfl tz0 ?_;(with_reducible refine (threshold_Valid.calls k b0 _ _ a7 _ _ a8 a9 _ ?side1 ?side2 ?side3 ?side4 A5.out).mono ?_);(case side1=>exact Kd.C_q (Kd.C_below e0.out HB.out));(case side2=>exact e1.out);(case side3=>exact Kd.C_q (Kd.C_below e2.out HB.out));(case side4=>exact e3.out);rintro e f9 ⟨rfl,hb⟩;refine ⟨_,rfl,?_⟩;refine ap2 (blk_below (blkP a6) hb) (below_step (belowP HB) hb) ?_;clear a6 HB;intro a6 HB))
  (try simp only [Act.put,List.setIfInBounds_toArray,List.set_cons_zero,List.set_cons_succ])
  go_cut [20] (fun f4 wc=>∃ (kq:Nat) (d1:Bool),f4 = .bool d1∧Aside0 (leaders_asked.j0 kq a2 a3 d1=some r)∧Aside0 (kq≤k)∧Aside0 (wc.heap[b1]? = some (.cells #[.int .i64 b0,(.slice b3 a7.length b4),(.slice b5 a8.length b6)] 30 (0,0)))∧Aside0 (Below w.heap.size w wc))
  case first=>
   have H:=d4.out
   clear d4
   by_cases b7:a1 < 0
   ·rw [if_pos b7] at H
    have b8:decide (a1 < 0)=true:=decide_eq_true b7
    clear b7
    (first|rw [b8] | (simp only [i64_w,i32_w];rw [b8])|skip)
    have H':=Aside0.mk H
    clear H
    go_wp2
    go_meet
    case rel=>exact ⟨_,(true),tz3,H',⟨by first|omega|exact Nat.le_refl _⟩,⟨by refine blkQ ?_;exact a6.out⟩,⟨by repeat (first|(with_reducible first|exact HB.out|apply below_alloc|apply pw_below_drewN|apply below_drew1|refine below_set ?_ b2.out)|exact HB.out)⟩⟩
   ·rw [if_neg b7] at H
    have b8:decide (a1 < 0)=false:=decide_eq_false b7
    clear b7
    (first|rw [b8] | (simp only [i64_w,i32_w];rw [b8])|skip)
    have H':=Aside0.mk H
    clear H
    go_wp2
    go_meet
    case rel=>exact ⟨_,(decide (a1≥10)),tz3,H',⟨by first|omega|exact Nat.le_refl _⟩,⟨by refine blkQ ?_;exact a6.out⟩,⟨by repeat (first|(with_reducible first|exact HB.out|apply below_alloc|apply pw_below_drewN|apply below_drew1|refine below_set ?_ b2.out)|exact HB.out)⟩⟩
  case rest=>
   clear d4
   try clear c6
   try clear e5
   try clear e6
   try clear b7
   try clear b8
   try clear e8
   try clear e9
   try clear f0
   try clear f1
   try clear f2
   try clear f3
   try clear a6
   try clear HB
   obtain ⟨kq,d1,rfl,HA,HJ6,a6,HB⟩:=hcut
   cases kq with
   | zero=>exact absurd HA.out (by simp [leaders_asked.j0])
   | succ g0=>
    have H:=HA.out
    clear HA
    simp only [leaders_asked.j0] at H
    by_cases d2:d1=true
    ·subst d2
     rw [if_pos rfl] at H
     obtain rfl:=Option.some.inj H
     go_wp2
     go_ret
     exact ⟨rE,by repeat (first|(with_reducible first|exact HB.out|apply below_alloc|apply pw_below_drewN|apply below_drew1|refine below_set ?_ b2.out)|exact HB.out)⟩
    ·replace d2:=Bool.eq_false_iff.mpr d2
     subst d2
     rw [if_neg (show ¬ (false=true) by decide)] at H
     by_cases b9:a2 < 0
     ·rw [if_pos b9] at H
      have f5:decide (a2 < 0)=true:=decide_eq_true b9
      clear b9
      obtain rfl:=Option.some.inj H
      go_wp2
      go_ret
      exact ⟨rE,by repeat (first|(with_reducible first|exact HB.out|apply below_alloc|apply pw_below_drewN|apply below_drew1|refine below_set ?_ b2.out)|exact HB.out)⟩
     ·rw [if_neg b9] at H
      have f5:decide (a2 < 0)=false:=decide_eq_false b9
      clear b9
      by_cases c0:a2 > 1000000
      ·rw [if_pos c0] at H
       have f6:decide (1000000 < a2)=true:=decide_eq_true c0
       clear c0
       obtain rfl:=Option.some.inj H
       go_wp2
       go_ret
       exact ⟨rE,by repeat (first|(with_reducible first|exact HB.out|apply below_alloc|apply pw_below_drewN|apply below_drew1|refine below_set ?_ b2.out)|exact HB.out)⟩
      ·rw [if_neg c0] at H
       have f6:decide (1000000 < a2)=false:=decide_eq_false c0
       clear c0
       by_cases c1:a3 < 1
       ·rw [if_pos c1] at H
        have f7:decide (a3 < 1)=true:=decide_eq_true c1
        clear c1
        obtain rfl:=Option.some.inj H
        go_wp2
        go_ret
        exact ⟨rE,by repeat (first|(with_reducible first|exact HB.out|apply below_alloc|apply pw_below_drewN|apply below_drew1|refine below_set ?_ b2.out)|exact HB.out)⟩
       ·rw [if_neg c1] at H
        have f7:decide (a3 < 1)=false:=decide_eq_false c1
        clear c1
        by_cases d0:a3 > 1000
        ·rw [if_pos d0] at H
         have f8:decide (1000 < a3)=true:=decide_eq_true d0
         clear d0
         obtain rfl:=Option.some.inj H
         go_wp2
         go_ret
         exact ⟨rE,by repeat (first|(with_reducible first|exact HB.out|apply below_alloc|apply pw_below_drewN|apply below_drew1|refine below_set ?_ b2.out)|exact HB.out)⟩
        ·rw [if_neg d0] at H
         have f8:decide (1000 < a3)=false:=decide_eq_false d0
         clear d0
         obtain rfl:=Option.some.inj H
         go_wp2
         go_ret
         exact ⟨rE,by repeat (first|(with_reducible first|exact HB.out|apply below_alloc|apply pw_below_drewN|apply below_drew1|refine below_set ?_ b2.out)|exact HB.out)⟩
 ·rw [if_neg c6] at H
  have e5:(a9 == 0)=false:=beq_eq_false_iff_ne.mpr c6
  have e6:(a9 != 0)=true:=bne_iff_ne.mpr c6
  obtain rfl:=Option.some.inj H
  go_enter Try.func49,Try.ntmps49
  go_wp2_with (first|((with_reducible refine gate_dst (N:=4) rfl ?_);refine box_event ?hg (N:=4) ?hd (cs:=#[.int .i64 b0,.slice b3 a7.length b4,.slice b5 a8.length b6]) (t:=30) ?hr ?_;(case hd=>rfl);(case hg=>rfl);(case hr=>first|(go_simp;done)|(go_simp;rfl));intro b1 hg d5 hbox hb;refine ap4 (below_step (belowP HB) hb) (hbox) ((by rw [hg];exact (below_size (belowP HB)):w.heap.size≤b1)) ((by rw [hg];exact (below_size (belowP HB)):w.heap.size≤b1)) ?_;clear HB;intro HB a6 GW240 b2;clear hb hbox hg;have g1:d5.cell? ⟨b1,0,none⟩=some (.int .i64 b0):=(blk_cell a6.out 0).trans rfl;have g2:d5.cell? ⟨b1,1,none⟩=some (.slice b3 a7.length b4):=(blk_cell a6.out 1).trans rfl;have g3:d5.cell? ⟨b1,2,none⟩=some (.slice b5 a8.length b6):=(blk_cell a6.out 2).trans rfl;have g4:=blk_frozen a6.out 0;have g5:=blk_frozen a6.out 1;have g6:=blk_frozen a6.out 2)|((with_reducible refine gate_callee (f:=11) rfl ?_);refine goesL_ (some 11) rfl rfl Try.func11 (by kernel_rfl) rfl #[.agg #[.int .i64 b0,.slice b3 a7.length b4,.slice b5 a8.length b6]] rfl tz0 ?_;(with_reducible refine (threshold_Valid.calls k b0 _ _ a7 _ _ a8 a9 _ ?side1 ?side2 ?side3 ?side4 A5.out).mono ?_);(case side1=>exact Kd.C_q (Kd.C_below e0.out HB.out));(case side2=>exact e1.out);(case side3=>exact Kd.C_q (Kd.C_below e2.out HB.out));(case side4=>exact e3.out);rintro e g7 ⟨rfl,hb⟩;refine ⟨_,rfl,?_⟩;refine ap2 (blk_below (blkP a6) hb) (below_step (belowP HB) hb) ?_;clear a6 HB;intro a6 HB))
  go_ret
  exact ⟨rE,by repeat (first|(with_reducible first|exact HB.out|apply below_alloc|apply pw_below_drewN|apply below_drew1|refine below_set ?_ b2.out)|exact HB.out)⟩
def leaders_Hash.f (a0:Int) (a1:Int) (a2:Int) (a3:Int):Option (Int):=some (((Go.bits .xor .u64 (IntKind.u64.wrap ((Go.bits .xor .u64 (IntKind.u64.wrap ((Go.bits .xor .u64 (IntKind.u64.wrap ((Go.bits .xor .u64 (Go.bits .xor .u64 (Go.bits .xor .u64 (IntKind.u64.wrap ((IntKind.u64.wrap (a0)) * 72057594037927936)) (IntKind.u64.wrap ((IntKind.u64.wrap (a1)) * 16777216))) (IntKind.u64.wrap ((IntKind.u64.wrap (a2)) * 256))) (IntKind.u64.wrap (a3))) + 11400714819323198485)) ((IntKind.u64.wrap ((Go.bits .xor .u64 (Go.bits .xor .u64 (Go.bits .xor .u64 (IntKind.u64.wrap ((IntKind.u64.wrap (a0)) * 72057594037927936)) (IntKind.u64.wrap ((IntKind.u64.wrap (a1)) * 16777216))) (IntKind.u64.wrap ((IntKind.u64.wrap (a2)) * 256))) (IntKind.u64.wrap (a3))) + 11400714819323198485)) / 1073741824)) * 13787848793156543929)) ((IntKind.u64.wrap ((Go.bits .xor .u64 (IntKind.u64.wrap ((Go.bits .xor .u64 (Go.bits .xor .u64 (Go.bits .xor .u64 (IntKind.u64.wrap ((IntKind.u64.wrap (a0)) * 72057594037927936)) (IntKind.u64.wrap ((IntKind.u64.wrap (a1)) * 16777216))) (IntKind.u64.wrap ((IntKind.u64.wrap (a2)) * 256))) (IntKind.u64.wrap (a3))) + 11400714819323198485)) ((IntKind.u64.wrap ((Go.bits .xor .u64 (Go.bits .xor .u64 (Go.bits .xor .u64 (IntKind.u64.wrap ((IntKind.u64.wrap (a0)) * 72057594037927936)) (IntKind.u64.wrap ((IntKind.u64.wrap (a1)) * 16777216))) (IntKind.u64.wrap ((IntKind.u64.wrap (a2)) * 256))) (IntKind.u64.wrap (a3))) + 11400714819323198485)) / 1073741824)) * 13787848793156543929)) / 134217728)) * 10723151780598845931)) ((IntKind.u64.wrap ((Go.bits .xor .u64 (IntKind.u64.wrap ((Go.bits .xor .u64 (IntKind.u64.wrap ((Go.bits .xor .u64 (Go.bits .xor .u64 (Go.bits .xor .u64 (IntKind.u64.wrap ((IntKind.u64.wrap (a0)) * 72057594037927936)) (IntKind.u64.wrap ((IntKind.u64.wrap (a1)) * 16777216))) (IntKind.u64.wrap ((IntKind.u64.wrap (a2)) * 256))) (IntKind.u64.wrap (a3))) + 11400714819323198485)) ((IntKind.u64.wrap ((Go.bits .xor .u64 (Go.bits .xor .u64 (Go.bits .xor .u64 (IntKind.u64.wrap ((IntKind.u64.wrap (a0)) * 72057594037927936)) (IntKind.u64.wrap ((IntKind.u64.wrap (a1)) * 16777216))) (IntKind.u64.wrap ((IntKind.u64.wrap (a2)) * 256))) (IntKind.u64.wrap (a3))) + 11400714819323198485)) / 1073741824)) * 13787848793156543929)) ((IntKind.u64.wrap ((Go.bits .xor .u64 (IntKind.u64.wrap ((Go.bits .xor .u64 (Go.bits .xor .u64 (Go.bits .xor .u64 (IntKind.u64.wrap ((IntKind.u64.wrap (a0)) * 72057594037927936)) (IntKind.u64.wrap ((IntKind.u64.wrap (a1)) * 16777216))) (IntKind.u64.wrap ((IntKind.u64.wrap (a2)) * 256))) (IntKind.u64.wrap (a3))) + 11400714819323198485)) ((IntKind.u64.wrap ((Go.bits .xor .u64 (Go.bits .xor .u64 (Go.bits .xor .u64 (IntKind.u64.wrap ((IntKind.u64.wrap (a0)) * 72057594037927936)) (IntKind.u64.wrap ((IntKind.u64.wrap (a1)) * 16777216))) (IntKind.u64.wrap ((IntKind.u64.wrap (a2)) * 256))) (IntKind.u64.wrap (a3))) + 11400714819323198485)) / 1073741824)) * 13787848793156543929)) / 134217728)) * 10723151780598845931)) / 2147483648)) / 4294967296) % 4294967296)
set_option maxHeartbeats 8000000 in
set_option maxRecDepth 100000 in
theorem leaders_Hash.calls (a0:Int) (a1:Int) (a2:Int) (a3:Int) (r:Int) (w:World) (h:leaders_Hash.f a0 a1 a2 a3=some r) :
  Calls Try.prog 63 #[.int .i64 a0,.int .i64 a1,.int .i64 a2,.int .i64 a3] w fun e w'=>e = .returned (.int .u32 r)∧Drawn0 w w':=by
 have H:(some (((Go.bits .xor .u64 (IntKind.u64.wrap ((Go.bits .xor .u64 (IntKind.u64.wrap ((Go.bits .xor .u64 (IntKind.u64.wrap ((Go.bits .xor .u64 (Go.bits .xor .u64 (Go.bits .xor .u64 (IntKind.u64.wrap ((IntKind.u64.wrap (a0)) * 72057594037927936)) (IntKind.u64.wrap ((IntKind.u64.wrap (a1)) * 16777216))) (IntKind.u64.wrap ((IntKind.u64.wrap (a2)) * 256))) (IntKind.u64.wrap (a3))) + 11400714819323198485)) ((IntKind.u64.wrap ((Go.bits .xor .u64 (Go.bits .xor .u64 (Go.bits .xor .u64 (IntKind.u64.wrap ((IntKind.u64.wrap (a0)) * 72057594037927936)) (IntKind.u64.wrap ((IntKind.u64.wrap (a1)) * 16777216))) (IntKind.u64.wrap ((IntKind.u64.wrap (a2)) * 256))) (IntKind.u64.wrap (a3))) + 11400714819323198485)) / 1073741824)) * 13787848793156543929)) ((IntKind.u64.wrap ((Go.bits .xor .u64 (IntKind.u64.wrap ((Go.bits .xor .u64 (Go.bits .xor .u64 (Go.bits .xor .u64 (IntKind.u64.wrap ((IntKind.u64.wrap (a0)) * 72057594037927936)) (IntKind.u64.wrap ((IntKind.u64.wrap (a1)) * 16777216))) (IntKind.u64.wrap ((IntKind.u64.wrap (a2)) * 256))) (IntKind.u64.wrap (a3))) + 11400714819323198485)) ((IntKind.u64.wrap ((Go.bits .xor .u64 (Go.bits .xor .u64 (Go.bits .xor .u64 (IntKind.u64.wrap ((IntKind.u64.wrap (a0)) * 72057594037927936)) (IntKind.u64.wrap ((IntKind.u64.wrap (a1)) * 16777216))) (IntKind.u64.wrap ((IntKind.u64.wrap (a2)) * 256))) (IntKind.u64.wrap (a3))) + 11400714819323198485)) / 1073741824)) * 13787848793156543929)) / 134217728)) * 10723151780598845931)) ((IntKind.u64.wrap ((Go.bits .xor .u64 (IntKind.u64.wrap ((Go.bits .xor .u64 (IntKind.u64.wrap ((Go.bits .xor .u64 (Go.bits .xor .u64 (Go.bits .xor .u64 (IntKind.u64.wrap ((IntKind.u64.wrap (a0)) * 72057594037927936)) (IntKind.u64.wrap ((IntKind.u64.wrap (a1)) * 16777216))) (IntKind.u64.wrap ((IntKind.u64.wrap (a2)) * 256))) (IntKind.u64.wrap (a3))) + 11400714819323198485)) ((IntKind.u64.wrap ((Go.bits .xor .u64 (Go.bits .xor .u64 (Go.bits .xor .u64 (IntKind.u64.wrap ((IntKind.u64.wrap (a0)) * 72057594037927936)) (IntKind.u64.wrap ((IntKind.u64.wrap (a1)) * 16777216))) (IntKind.u64.wrap ((IntKind.u64.wrap (a2)) * 256))) (IntKind.u64.wrap (a3))) + 11400714819323198485)) / 1073741824)) * 13787848793156543929)) ((IntKind.u64.wrap ((Go.bits .xor .u64 (IntKind.u64.wrap ((Go.bits .xor .u64 (Go.bits .xor .u64 (Go.bits .xor .u64 (IntKind.u64.wrap ((IntKind.u64.wrap (a0)) * 72057594037927936)) (IntKind.u64.wrap ((IntKind.u64.wrap (a1)) * 16777216))) (IntKind.u64.wrap ((IntKind.u64.wrap (a2)) * 256))) (IntKind.u64.wrap (a3))) + 11400714819323198485)) ((IntKind.u64.wrap ((Go.bits .xor .u64 (Go.bits .xor .u64 (Go.bits .xor .u64 (IntKind.u64.wrap ((IntKind.u64.wrap (a0)) * 72057594037927936)) (IntKind.u64.wrap ((IntKind.u64.wrap (a1)) * 16777216))) (IntKind.u64.wrap ((IntKind.u64.wrap (a2)) * 256))) (IntKind.u64.wrap (a3))) + 11400714819323198485)) / 1073741824)) * 13787848793156543929)) / 134217728)) * 10723151780598845931)) / 2147483648)) / 4294967296) % 4294967296))=some r:=h
 clear h
 obtain rfl:=Option.some.inj H
 go_enter Try.func63,Try.ntmps63
 go_wp2
 go_ret
 exact ⟨by first|rfl|(simp;done)|(simp [*];done),by repeat (first|exact Drawn0.refl _|apply Drawn0.step)⟩
def slices_Index_int_int.l0:Nat→List Int→Int→Int→Int→Option (Int)
 | 0,_,_,_,_=>none
 | k + 1,x0,x1,x7,x8=>if x8 < x7 then (if 0≤x8 then (if x8 < (x0.length:Int) then (if x1=(rd x0 x8) then (some x8) else (slices_Index_int_int.l0 k x0 x1 x7 (wrap64 (x8 + 1)))) else (none)) else (none)) else (some (-1))
def slices_Index_int_int.f (k:Nat) (l0:List Int) (a1:Int):Option (Int):=slices_Index_int_int.l0 k l0 a1 (l0.length:Int) 0
theorem slices_Index_int_int.mono_l:∀ k,(∀ y0 y1 y2 y3,LeO (slices_Index_int_int.l0 k y0 y1 y2 y3) (slices_Index_int_int.l0 (k + 1) y0 y1 y2 y3))
 | 0=>fun _ _ _ _ r h=>by simp [slices_Index_int_int.l0] at h
 | k + 1=>by
  have a5:=slices_Index_int_int.mono_l k
  ·intro y0 y1 y2 y3
   unfold slices_Index_int_int.l0
   repeat' first
   | (with_reducible exact a5 _ _ _ _)
   | (with_reducible exact LeO.refl _)
   | (with_reducible exact LeO.none _)
   | (with_reducible refine LeO.ite ?_ ?_)
   | (with_reducible refine LeO.bind ?_ (fun _=>?_))
theorem slices_Index_int_int.mono:∀ a0 a1 k,LeO (slices_Index_int_int.f k a0 a1) (slices_Index_int_int.f (k + 1) a0 a1):=by
 intro a0 a1 k
 have a5:=slices_Index_int_int.mono_l k
 unfold slices_Index_int_int.f
 repeat' first
   | (with_reducible exact a5 _ _ _ _)
   | (with_reducible exact LeO.refl _)
   | (with_reducible exact LeO.none _)
   | (with_reducible refine LeO.ite ?_ ?_)
   | (with_reducible refine LeO.bind ?_ (fun _=>?_))
set_option maxHeartbeats 8000000 in
set_option maxRecDepth 100000 in
theorem slices_Index_int_int.calls (k:Nat) (A0:Option Addr) (c0:Nat) (l0:List Int) (a1:Int) (r:Int) (w:World) (a7:Kd.C (Kd.int .i64) w A0 l0.length l0) (a8:l0.length≤c0) (h:slices_Index_int_int.f k l0 a1=some r) :
  Calls Try.prog 94 #[.slice A0 l0.length c0,.int .i64 a1] w fun e w'=>e = .returned (.int .i64 r)∧Drawn0 w w':=by
 have a9:=Aside0.mk a7
 have b6:=Aside0.mk a8
 clear a7 a8
 have H:(slices_Index_int_int.l0 k l0 a1 (l0.length:Int) 0)=some r:=h
 clear h
 have H':=Aside0.mk H
 clear H
 go_enter Try.func94,Try.ntmps94
 go_wp2
 go_loopg [8] k (fun kq v8 w'=>∃ (a2:Int),v8 = .int .i64 a2∧Aside0 (slices_Index_int_int.l0 kq l0 a1 (l0.length:Int) a2=some r)∧Aside0 (kq≤k)∧Drawn0 w w')
 case atStart=>exact ⟨(0),tz3,H',⟨Nat.le_refl _⟩,by repeat (first|exact Drawn0.refl _|apply Drawn0.step)⟩
 case round=>
  clear H'
  obtain ⟨a2,rfl,HA,b0,⟨m1,rfl⟩⟩:=hrel
  cases gk with
  | zero=>exact absurd HA.out (by simp [slices_Index_int_int.l0])
  | succ k1=>
   have H:=HA.out
   clear HA
   simp only [slices_Index_int_int.l0] at H
   by_cases c3:a2 < (l0.length:Int)
   ·rw [if_pos c3] at H
    have b1:decide (a2 < (l0.length:Int))=true:=decide_eq_true c3
    clear c3
    by_cases c4:0≤a2
    ·rw [if_pos c4] at H
     have b7:decide (0≤a2)=true:=decide_eq_true c4
     clear c4
     by_cases c5:a2 < (l0.length:Int)
     ·rw [if_pos c5] at H
      have b8:decide (a2 < (l0.length:Int))=true:=decide_eq_true c5
      clear c5
      by_cases c6:a1=(rd l0 a2)
      ·rw [if_pos c6] at H
       have b2:(a1 == (rd l0 a2))=true:=beq_iff_eq.mpr c6
       have b3:(a1 != (rd l0 a2))=false:=bne_eq_false_iff_eq.mpr c6
       clear c6
       obtain rfl:=Option.some.inj H
       have a3:0≤(a2:Int):=of_decide_eq_true tz2
       have a4:a2 < (l0.length:Int):=of_decide_eq_true tz2
       obtain ⟨b4,a6,b5⟩:=Kd.at_int a9.out a2 a3 a4
       cases a6
       replace a3:=eq_true a3
       replace a4:=eq_true a4
       go_wp2
       go_ret
       exact ⟨by first|rfl|(simp;done)|(simp [*];done),by repeat (first|exact Drawn0.refl _|apply Drawn0.step)⟩
      ·rw [if_neg c6] at H
       have b2:(a1 == (rd l0 a2))=false:=beq_eq_false_iff_ne.mpr c6
       have b3:(a1 != (rd l0 a2))=true:=bne_iff_ne.mpr c6
       have H':=Aside0.mk H
       clear H
       have a3:0≤(a2:Int):=of_decide_eq_true tz2
       have a4:a2 < (l0.length:Int):=of_decide_eq_true tz2
       obtain ⟨b4,a6,b5⟩:=Kd.at_int a9.out a2 a3 a4
       cases a6
       replace a3:=eq_true a3
       replace a4:=eq_true a4
       go_wp2
       go_roundg k1
       case measure=>have:=b0.out;omega
       case rel=>exact ⟨(wrap64 (a2 + 1)),tz3,H',⟨by have:=b0.out;omega⟩,by repeat (first|exact Drawn0.refl _|apply Drawn0.step)⟩
     ·rw [if_neg c5] at H
      exact absurd H (by simp)
    ·rw [if_neg c4] at H
     exact absurd H (by simp)
   ·rw [if_neg c3] at H
    have b1:decide (a2 < (l0.length:Int))=false:=decide_eq_false c3
    clear c3
    obtain rfl:=Option.some.inj H
    go_wp2
    go_ret
    exact ⟨by first|rfl|(simp;done)|(simp [*];done),by repeat (first|exact Drawn0.refl _|apply Drawn0.step)⟩
def slices_Contains_int_int.f (k:Nat) (l0:List Int) (a1:Int):Option (Bool):=(slices_Index_int_int.f k l0 a1).bind fun a2=>(some (decide (a2≥0)))
theorem slices_Contains_int_int.mono:∀ a0 a1 k,LeO (slices_Contains_int_int.f k a0 a1) (slices_Contains_int_int.f (k + 1) a0 a1):=by
 intro a0 a1 k
 unfold slices_Contains_int_int.f
 repeat' first
   | (with_reducible apply slices_Index_int_int.mono)
   | (with_reducible exact LeO.refl _)
   | (with_reducible exact LeO.none _)
   | (with_reducible refine LeO.ite ?_ ?_)
   | (with_reducible refine LeO.bind ?_ (fun _=>?_))
set_option maxHeartbeats 8000000 in
set_option maxRecDepth 100000 in
theorem slices_Contains_int_int.calls (k:Nat) (A0:Option Addr) (c0:Nat) (l0:List Int) (a1:Int) (r:Bool) (w:World) (a3:Kd.C (Kd.int .i64) w A0 l0.length l0) (a4:l0.length≤c0) (h:slices_Contains_int_int.f k l0 a1=some r) :
  Calls Try.prog 88 #[.slice A0 l0.length c0,.int .i64 a1] w fun e w'=>e = .returned (.bool r)∧Drawn0 w w':=by
 have a6:=Aside0.mk a3
 have a7:=Aside0.mk a4
 clear a3 a4
 have H:((slices_Index_int_int.f k l0 a1).bind fun a2=>(some (decide (a2≥0))))=some r:=h
 clear h
 replace H:=Option.bind_eq_some_iff.mp H
 obtain ⟨a2,a5,H⟩:=H
 replace H:(some (decide (a2≥0)))=some r:=H
 have A3:=Aside0.mk a5
 clear a5
 obtain rfl:=Option.some.inj H
 go_enter Try.func88,Try.ntmps88
 go_wp2_with (first|((with_reducible refine gate_callee (f:=94) rfl ?_);refine goesL_ (some 7) rfl rfl Try.func94 (by kernel_rfl) rfl #[.slice A0 l0.length c0,.int .i64 a1] rfl tz0 ?_;(with_reducible refine (slices_Index_int_int.calls k _ _ l0 a1 a2 _ ?side1 ?side2 A3.out).mono ?_);(case side1=>exact Kd.C_q a6.out);(case side2=>exact a7.out);rintro e w' ⟨rfl,⟨nd,rfl⟩⟩;refine ⟨_,rfl,?_⟩))
 go_ret
 exact ⟨by first|rfl|(simp;done)|(simp [*];done),by repeat (first|exact Drawn0.refl _|apply Drawn0.step)⟩
mutual
def leaders_weight.l0:Nat→Int→List (S30)→Int→Int→Int→Int→Option (Int × Int × Bool)
 | 0,_,_,_,_,_,_=>none
 | k + 1,x1,f5,k4,d6,k5,k6=>if d6 < k4 then (if 0≤d6 then (if d6 < (f5.length:Int) then ((leaders_weight.f k ((rd_T30 f5 d6).f0) ((rd_T30 f5 d6).f1) ((rd_T30 f5 d6).f2) x1).bind fun h6=>(if h6.2.2=true then (some (wrap64 (k5 * h6.1),wrap64 (k6 * h6.2.1),true)) else (leaders_weight.l0 k x1 f5 k4 (wrap64 (d6 + 1)) k5 k6))) else (none)) else (none)) else (some (0,0,false))
def leaders_weight.f:Nat→Int→List Int→List (S30)→Int→Option (Int × Int × Bool)
 | 0,_,_,_,_=>none
 | k + 1,b0,b5,a5,a1=>(slices_Contains_int_int.f k b5 a1).bind fun e5=>(if e5=true then (some (b0,wrap64 ((b5.length:Int) + (a5.length:Int)),true)) else (leaders_weight.l0 k a1 a5 (a5.length:Int) 0 b0 (wrap64 ((b5.length:Int) + (a5.length:Int)))))
end
theorem leaders_weight.mono_l:∀ k,(∀ y0 y1 y2 y3,LeO (leaders_weight.f k y0 y1 y2 y3) (leaders_weight.f (k + 1) y0 y1 y2 y3))∧(∀ y0 y1 y2 y3 y4 y5,LeO (leaders_weight.l0 k y0 y1 y2 y3 y4 y5) (leaders_weight.l0 (k + 1) y0 y1 y2 y3 y4 y5))
 | 0=>⟨fun _ _ _ _ r h=>by simp [leaders_weight.f] at h,fun _ _ _ _ _ _ r h=>by simp [leaders_weight.l0] at h⟩
 | k + 1=>by
  obtain ⟨g9,h7⟩:=leaders_weight.mono_l k
  refine ⟨?_,?_⟩
  ·intro y0 y1 y2 y3
   unfold leaders_weight.f
   repeat' first
   | (with_reducible exact g9 _ _ _ _)
   | (with_reducible exact h7 _ _ _ _ _ _)
   | (with_reducible apply slices_Contains_int_int.mono)
   | (with_reducible exact LeO.refl _)
   | (with_reducible exact LeO.none _)
   | (with_reducible refine LeO.ite ?_ ?_)
   | (with_reducible refine LeO.bind ?_ (fun _=>?_))
  ·intro y0 y1 y2 y3 y4 y5
   unfold leaders_weight.l0
   repeat' first
   | (with_reducible exact g9 _ _ _ _)
   | (with_reducible exact h7 _ _ _ _ _ _)
   | (with_reducible apply slices_Contains_int_int.mono)
   | (with_reducible exact LeO.refl _)
   | (with_reducible exact LeO.none _)
   | (with_reducible refine LeO.ite ?_ ?_)
   | (with_reducible refine LeO.bind ?_ (fun _=>?_))
theorem leaders_weight.mono:∀ a0 a1 a2 a3 k,LeO (leaders_weight.f k a0 a1 a2 a3) (leaders_weight.f (k + 1) a0 a1 a2 a3):=by
 intro a0 a1 a2 a3 k
 obtain ⟨g9,h7⟩:=leaders_weight.mono_l k
 exact g9 a0 a1 a2 a3
set_option maxHeartbeats 8000000 in
set_option maxRecDepth 100000 in
theorem leaders_weight.calls (k:Nat):∀ (b0:Int) (b7:Option Addr) (b8:Nat) (b5:List Int) (c0:Option Addr) (b9:Nat) (a5:List (S30)) (a1:Int) (r1:Int) (r2:Int) (r3:Bool) (w:World) (h8:Kd.C (Kd.int .i64) w b7 b5.length b5) (h9:b5.length≤b8) (i0:Kd.C k30 w c0 a5.length a5) (i1:a5.length≤b9) (h:leaders_weight.f k b0 b5 a5 a1=some (r1,r2,r3)),
  Calls Try.prog 73 #[.agg #[.int .i64 b0,.slice b7 b5.length b8,.slice c0 a5.length b9],.int .i64 a1] w fun e w'=>e = .returned (.tuple #[.agg #[.int .i64 r1,.int .i64 r2],.bool r3])∧Below w.heap.size w w':=by
 induction k using Nat.strongRecOn with
 | _ k ih=>
 intro b0 b7 b8 b5 c0 b9 a5 a1 r1 r2 r3 w h8 h9 i0 i1 h
 cases k with
 | zero=>exact absurd h (by simp [leaders_weight.f])
 | succ k=>
 simp only [leaders_weight.f] at h
 have hu30:=Try.underlying30
 have hu103:=Try.underlying103
 have k7:=Aside0.mk h8
 have k8:=Aside0.mk h9
 clear h8 h9
 have k9:=Aside0.mk i0
 have p6:=Aside0.mk i1
 clear i0 i1
 obtain ⟨S_,hS_⟩:∃ S,wrap64 ((b5.length:Int) + (a5.length:Int))=S:=⟨_,rfl⟩
 simp only [hS_] at h
 have HB:=Aside0.mk (Below.refl w.heap.size w)
 have H:((slices_Contains_int_int.f k b5 a1).bind fun e5=>(if e5=true then (some (b0,S_,true)) else (leaders_weight.l0 k a1 a5 (a5.length:Int) 0 b0 S_)))=some (r1,r2,r3):=h
 clear h
 replace H:=Option.bind_eq_some_iff.mp H
 obtain ⟨e5,l3,H⟩:=H
 replace H:(if e5=true then (some (b0,S_,true)) else (leaders_weight.l0 k a1 a5 (a5.length:Int) 0 b0 S_))=some (r1,r2,r3):=H
 have A3:=Aside0.mk l3
 clear l3
 by_cases c4:e5=true
 ·subst c4
  rw [if_pos rfl] at H
  simp only [Option.some.injEq,Prod.mk.injEq] at H
  obtain ⟨rfl,rfl,rfl⟩:=H
  go_enter Try.func73,Try.ntmps73
  go_wp2_with (first|((with_reducible refine gate_dst (N:=2) rfl ?_);refine box_event ?hg (N:=2) ?hd (cs:=#[.int .i64 b0,.slice b7 b5.length b8,.slice c0 a5.length b9]) (t:=30) ?hr ?_;(case hd=>rfl);(case hg=>rfl);(case hr=>first|(go_simp;done)|(go_simp;rfl));intro a9 hg w5 hbox hb;refine ap4 (below_step (belowP HB) hb) (hbox) ((by rw [hg];exact (below_size (belowP HB)):w.heap.size≤a9)) ((by rw [hg];exact (below_size (belowP HB)):w.heap.size≤a9)) ?_;clear HB;intro HB a4 GW244 e6;clear hb hbox hg)|((with_reducible refine gate_dst (N:=4) rfl ?_);refine box_event ?hg (N:=4) ?hd (cs:=#[.int .i64 0,.int .i64 0]) (t:=103) ?hr ?_;(case hd=>rfl);(case hg=>rfl);(case hr=>first|(go_simp;done)|(go_simp;rfl));intro b1 hg w6 hbox hb;refine ap7 (blk_below (blkP a4) hb) (below_step (belowP HB) hb) (hbox) ((by rw [hg];exact (below_size (belowP HB)):w.heap.size≤b1)) ((by rw [hg];exact (below_size (belowP HB)):w.heap.size≤b1)) ((by rw [hg];exact Nat.ne_of_lt (blk_lt (blkP a4)):a9≠b1)) ((by rw [hg];exact Nat.ne_of_gt (blk_lt (blkP a4)):b1≠a9)) ?_;clear a4 HB;intro a4 HB a6 GW245 e7 f6 f7;clear hb hbox hg;have p7:=f6.out;have p8:=f7.out;have l8:w6.cell? ⟨a9,0,none⟩=some (.int .i64 b0):=(blk_cell a4.out 0).trans rfl;have l9:w6.cell? ⟨a9,1,none⟩=some (.slice b7 b5.length b8):=(blk_cell a4.out 1).trans rfl;have m0:w6.cell? ⟨a9,2,none⟩=some (.slice c0 a5.length b9):=(blk_cell a4.out 2).trans rfl;have m1:=blk_frozen a4.out 0;have m2:=blk_frozen a4.out 1;have m3:=blk_frozen a4.out 2)|((with_reducible refine gate_dst (N:=6) rfl ?_);refine box_event ?hg (N:=6) ?hd (cs:=#[.int .i64 0,.int .i64 0]) (t:=103) ?hr ?_;(case hd=>rfl);(case hg=>rfl);(case hr=>first|(go_simp;done)|(go_simp;rfl));intro b2 hg w9 hbox hb;refine ap10 (blk_below (blkP a4) hb) (blk_below (blkP a6) hb) (below_step (belowP HB) hb) (hbox) ((by rw [hg];exact (below_size (belowP HB)):w.heap.size≤b2)) ((by rw [hg];exact (below_size (belowP HB)):w.heap.size≤b2)) ((by rw [hg];exact Nat.ne_of_lt (blk_lt (blkP a4)):a9≠b2)) ((by rw [hg];exact Nat.ne_of_gt (blk_lt (blkP a4)):b2≠a9)) ((by rw [hg];exact Nat.ne_of_lt (blk_lt (blkP a6)):b1≠b2)) ((by rw [hg];exact Nat.ne_of_gt (blk_lt (blkP a6)):b2≠b1)) ?_;clear a4 a6 HB;intro a4 a6 HB a7 GW246 e8 e9 h0 d0 f8;clear hb hbox hg;have p9:=h0.out;have q0:=e9.out;have q1:=f8.out;have q2:=d0.out;have m4:w9.cell? ⟨b2,0,none⟩=some (.int .i64 0):=(blk_cell a7.out 0).trans rfl;have m5:w9.cell? ⟨b2,1,none⟩=some (.int .i64 0):=(blk_cell a7.out 1).trans rfl;have m6:=blk_frozen a7.out 0;have m7:=blk_frozen a7.out 1;have m8:w9.cell? ⟨a9,0,none⟩=some (.int .i64 b0):=(blk_cell a4.out 0).trans rfl;have m9:w9.cell? ⟨a9,1,none⟩=some (.slice b7 b5.length b8):=(blk_cell a4.out 1).trans rfl;have n0:w9.cell? ⟨a9,2,none⟩=some (.slice c0 a5.length b9):=(blk_cell a4.out 2).trans rfl;have n1:=blk_frozen a4.out 0;have n2:=blk_frozen a4.out 1;have n3:=blk_frozen a4.out 2)|((with_reducible refine gate_callee (f:=88) rfl ?_);refine goesL_ (some 24) rfl rfl Try.func88 (by kernel_rfl) rfl #[.slice b7 b5.length b8,.int .i64 a1] rfl tz0 ?_;(with_reducible refine (slices_Contains_int_int.calls k _ _ b5 a1 true _ ?side1 ?side2 A3.out).mono ?_);(case side1=>exact Kd.C_below k7.out (belowP HB));(case side2=>exact k8.out);rintro e w' ⟨rfl,⟨nd,rfl⟩⟩;refine ⟨_,rfl,?_⟩;have n4:w9.cell? ⟨b1,0,none⟩=some (.int .i64 0):=(blk_cell a6.out 0).trans rfl;have n5:w9.cell? ⟨b1,1,none⟩=some (.int .i64 0):=(blk_cell a6.out 1).trans rfl;have n6:=blk_frozen a6.out 0;have n7:=blk_frozen a6.out 1))
  refine bodyPost_ret (results_ct rfl _ _ b1 103 #[.int .i64 b0,.int .i64 S_] (0,0) _ rfl (by refine blkQ ?_;refine blk_put (cs:=#[.int .i64 b0,.int .i64 0]) ?_ 1 _ rfl;refine blkQ ?_;refine blk_put (cs:=#[.int .i64 0,.int .i64 0]) ?_ 0 _ rfl;refine blkQ ?_;refine blk_far ?_ d0.out _;refine blkQ ?_;refine blk_far ?_ d0.out _;refine blkQ ?_;exact a6.out) Try.underlying103 rfl (by kernel_rfl)) rfl ?_
  exact ⟨rE,by repeat (first|(with_reducible first|exact HB.out|apply below_alloc|apply pw_below_drewN|apply below_drew1|refine below_set ?_ e6.out|refine below_set ?_ e7.out|refine below_set ?_ e8.out)|exact HB.out)⟩
 ·replace c4:=Bool.eq_false_iff.mpr c4
  subst c4
  rw [if_neg (show ¬ (false=true) by decide)] at H
  have H':=Aside0.mk H
  clear H
  go_enter Try.func73,Try.ntmps73
  go_wp2_with (first|((with_reducible refine gate_dst (N:=2) rfl ?_);refine box_event ?hg (N:=2) ?hd (cs:=#[.int .i64 b0,.slice b7 b5.length b8,.slice c0 a5.length b9]) (t:=30) ?hr ?_;(case hd=>rfl);(case hg=>rfl);(case hr=>first|(go_simp;done)|(go_simp;rfl));intro a9 hg q3 hbox hb;refine ap4 (below_step (belowP HB) hb) (hbox) ((by rw [hg];exact (below_size (belowP HB)):w.heap.size≤a9)) ((by rw [hg];exact (below_size (belowP HB)):w.heap.size≤a9)) ?_;clear HB;intro HB a4 GW244 e6;clear hb hbox hg)|((with_reducible refine gate_dst (N:=4) rfl ?_);refine box_event ?hg (N:=4) ?hd (cs:=#[.int .i64 0,.int .i64 0]) (t:=103) ?hr ?_;(case hd=>rfl);(case hg=>rfl);(case hr=>first|(go_simp;done)|(go_simp;rfl));intro b1 hg i2 hbox hb;refine ap7 (blk_below (blkP a4) hb) (below_step (belowP HB) hb) (hbox) ((by rw [hg];exact (below_size (belowP HB)):w.heap.size≤b1)) ((by rw [hg];exact (below_size (belowP HB)):w.heap.size≤b1)) ((by rw [hg];exact Nat.ne_of_lt (blk_lt (blkP a4)):a9≠b1)) ((by rw [hg];exact Nat.ne_of_gt (blk_lt (blkP a4)):b1≠a9)) ?_;clear a4 HB;intro a4 HB a6 GW245 e7 f6 f7;clear hb hbox hg;have q4:=f6.out;have q5:=f7.out;have n8:i2.cell? ⟨a9,0,none⟩=some (.int .i64 b0):=(blk_cell a4.out 0).trans rfl;have n9:i2.cell? ⟨a9,1,none⟩=some (.slice b7 b5.length b8):=(blk_cell a4.out 1).trans rfl;have o0:i2.cell? ⟨a9,2,none⟩=some (.slice c0 a5.length b9):=(blk_cell a4.out 2).trans rfl;have o1:=blk_frozen a4.out 0;have o2:=blk_frozen a4.out 1;have o3:=blk_frozen a4.out 2)|((with_reducible refine gate_dst (N:=6) rfl ?_);refine box_event ?hg (N:=6) ?hd (cs:=#[.int .i64 0,.int .i64 0]) (t:=103) ?hr ?_;(case hd=>rfl);(case hg=>rfl);(case hr=>first|(go_simp;done)|(go_simp;rfl));intro b2 hg f9 hbox hb;refine ap10 (blk_below (blkP a4) hb) (blk_below (blkP a6) hb) (below_step (belowP HB) hb) (hbox) ((by rw [hg];exact (below_size (belowP HB)):w.heap.size≤b2)) ((by rw [hg];exact (below_size (belowP HB)):w.heap.size≤b2)) ((by rw [hg];exact Nat.ne_of_lt (blk_lt (blkP a4)):a9≠b2)) ((by rw [hg];exact Nat.ne_of_gt (blk_lt (blkP a4)):b2≠a9)) ((by rw [hg];exact Nat.ne_of_lt (blk_lt (blkP a6)):b1≠b2)) ((by rw [hg];exact Nat.ne_of_gt (blk_lt (blkP a6)):b2≠b1)) ?_;clear a4 a6 HB;intro a4 a6 HB a7 GW246 e8 e9 h0 d0 f8;clear hb hbox hg;have q6:=h0.out;have q7:=e9.out;have q8:=f8.out;have q9:=d0.out;have o4:f9.cell? ⟨b2,0,none⟩=some (.int .i64 0):=(blk_cell a7.out 0).trans rfl;have o5:f9.cell? ⟨b2,1,none⟩=some (.int .i64 0):=(blk_cell a7.out 1).trans rfl;have o6:=blk_frozen a7.out 0;have o7:=blk_frozen a7.out 1;have o8:f9.cell? ⟨a9,0,none⟩=some (.int .i64 b0):=(blk_cell a4.out 0).trans rfl;have o9:f9.cell? ⟨a9,1,none⟩=some (.slice b7 b5.length b8):=(blk_cell a4.out 1).trans rfl;have p0:f9.cell? ⟨a9,2,none⟩=some (.slice c0 a5.length b9):=(blk_cell a4.out 2).trans rfl;have p1:=blk_frozen a4.out 0;have p2:=blk_frozen a4.out 1;have p3:=blk_frozen a4.out 2)|((with_reducible refine gate_callee (f:=88) rfl ?_);refine goesL_ (some 24) rfl rfl Try.func88 (by kernel_rfl) rfl #[.slice b7 b5.length b8,.int .i64 a1] rfl tz0 ?_;(with_reducible refine (slices_Contains_int_int.calls k _ _ b5 a1 false _ ?side1 ?side2 A3.out).mono ?_);(case side1=>exact Kd.C_below k7.out (belowP HB));(case side2=>exact k8.out);rintro e w' ⟨rfl,⟨nd,rfl⟩⟩;refine ⟨_,rfl,?_⟩))
  go_loopg [29] k (fun kq p4 w'=>∃ (a8:Int) (d5:Int) (c1:Int),p4 = .int .i64 a8∧Aside0 (leaders_weight.l0 kq a1 a5 (a5.length:Int) a8 b0 S_=some (r1,r2,r3))∧Aside0 (kq≤k)∧Aside0 (w'.heap[a9]? = some (.cells #[.int .i64 b0,(.slice b7 b5.length b8),(.slice c0 a5.length b9)] 30 (0,0)))∧Aside0 (w'.heap[b1]? = some (.cells #[.int .i64 d5,.int .i64 c1] 103 (0,0)))∧Aside0 (w'.heap[b2]? = some (.cells #[.int .i64 b0,.int .i64 S_] 103 (0,0)))∧Aside0 (Below w.heap.size w w'))
  case atStart=>exact ⟨(0),(0),(0),tz3,H',⟨Nat.le_refl _⟩,⟨by refine blkQ ?_;refine blk_far ?_ e9.out _;refine blkQ ?_;refine blk_far ?_ e9.out _;refine blkQ ?_;exact a4.out⟩,⟨by refine blkQ ?_;refine blk_far ?_ d0.out _;refine blkQ ?_;refine blk_far ?_ d0.out _;refine blkQ ?_;exact a6.out⟩,⟨by refine blkQ ?_;refine blk_put (cs:=#[.int .i64 b0,.int .i64 0]) ?_ 1 _ rfl;refine blkQ ?_;refine blk_put (cs:=#[.int .i64 0,.int .i64 0]) ?_ 0 _ rfl;refine blkQ ?_;exact a7.out⟩,⟨by repeat (first|(with_reducible first|exact HB.out|apply below_alloc|apply pw_below_drewN|apply below_drew1|refine below_set ?_ e6.out|refine below_set ?_ e7.out|refine below_set ?_ e8.out)|exact HB.out)⟩⟩
  case round=>
   clear H'
   try clear c4
   try clear m4
   try clear m5
   try clear m8
   try clear m9
   try clear n0
   try clear n4
   try clear n5
   try clear n8
   try clear n9
   try clear o0
   try clear o4
   try clear o5
   try clear o8
   try clear o9
   try clear p0
   try clear l8
   try clear l9
   try clear m0
   try clear m6
   try clear m7
   try clear n1
   try clear n2
   try clear n3
   try clear n6
   try clear n7
   try clear o1
   try clear o2
   try clear o3
   try clear o6
   try clear o7
   try clear p1
   try clear p2
   try clear p3
   try clear m1
   try clear m2
   try clear m3
   try clear a4
   try clear a6
   try clear a7
   try clear HB
   obtain ⟨a8,d5,c1,rfl,HA,h1,a4,a6,a7,HB⟩:=hrel
   cases gk with
   | zero=>exact absurd HA.out (by simp [leaders_weight.l0])
   | succ k1=>
    have H:=HA.out
    clear HA
    simp only [leaders_weight.l0] at H
    by_cases f3:a8 < (a5.length:Int)
    ·rw [if_pos f3] at H
     have p5:decide (a8 < (a5.length:Int))=true:=decide_eq_true f3
     clear f3
     by_cases h2:0≤a8
     ·rw [if_pos h2] at H
      have r0:decide (0≤a8)=true:=decide_eq_true h2
      clear h2
      by_cases h3:a8 < (a5.length:Int)
      ·rw [if_pos h3] at H
       have r4:decide (a8 < (a5.length:Int))=true:=decide_eq_true h3
       clear h3
       replace H:=Option.bind_eq_some_iff.mp H
       obtain ⟨⟨g0,h4,l4⟩,l5,H⟩:=H
       replace H:(if l4=true then (some (wrap64 (b0 * g0),wrap64 (S_ * h4),true)) else (leaders_weight.l0 k1 a1 a5 (a5.length:Int) (wrap64 (a8 + 1)) b0 S_))=some (r1,r2,r3):=H
       have l6:=Aside0.mk l5
       clear l5
       by_cases h5:l4=true
       ·subst h5
        rw [if_pos rfl] at H
        simp only [Option.some.injEq,Prod.mk.injEq] at H
        obtain ⟨rfl,rfl,rfl⟩:=H
        have d7:0≤(a8:Int):=of_decide_eq_true tz2
        have d8:a8 < (a5.length:Int):=of_decide_eq_true tz2
        obtain ⟨i3,d9,e0,g1,g2,i4,e1,e2,e3,g3,g4,g5,g6⟩:=at_T30 k9.out a8 d7 d8
        cases i4
        replace e1:=(HB.out.cell (World.block_lt_of_cell? w _ e1)).trans e1
        replace e2:=(HB.out.cell (World.block_lt_of_cell? w _ e2)).trans e2
        replace e3:=(HB.out.cell (World.block_lt_of_cell? w _ e3)).trans e3
        have i5:=Aside0.mk g4
        have i6:=Aside0.mk g3
        clear g4 g3
        have i7:=Aside0.mk g6
        have i8:=Aside0.mk g5
        clear g6 g5
        replace d7:=eq_true d7
        replace d8:=eq_true d8
        go_wp2_with (first|((with_reducible refine gate_dst (N:=8) rfl ?_);refine box_event ?hg (N:=8) ?hd (cs:=#[.int .i64 0,.slice none 0 0,.slice none 0 0]) (t:=30) ?hr ?_;(case hd=>rfl);(case hg=>rfl);(case hr=>first|(go_simp;done)|(go_simp;rfl));intro b3 hg i9 hbox hb;refine ap13 (blk_below (blkP a4) hb) (blk_below (blkP a6) hb) (blk_below (blkP a7) hb) (below_step (belowP HB) hb) (hbox) ((by rw [hg];exact (below_size (belowP HB)):w.heap.size≤b3)) ((by rw [hg];exact (below_size (belowP HB)):w.heap.size≤b3)) ((by rw [hg];exact Nat.ne_of_lt (blk_lt (blkP a4)):a9≠b3)) ((by rw [hg];exact Nat.ne_of_gt (blk_lt (blkP a4)):b3≠a9)) ((by rw [hg];exact Nat.ne_of_lt (blk_lt (blkP a6)):b1≠b3)) ((by rw [hg];exact Nat.ne_of_gt (blk_lt (blkP a6)):b3≠b1)) ((by rw [hg];exact Nat.ne_of_lt (blk_lt (blkP a7)):b2≠b3)) ((by rw [hg];exact Nat.ne_of_gt (blk_lt (blkP a7)):b3≠b2)) ?_;clear a4 a6 a7 HB;intro a4 a6 a7 HB b4 GW249 j2 d1 j3 d2 j4 d3 j5;clear hb hbox hg;have r5:=j3.out;have r6:=d1.out;have r7:=j4.out;have r8:=d2.out;have r9:=j5.out;have s0:=d3.out;have s1:i9.cell? ⟨b3,0,none⟩=some (.int .i64 0):=(blk_cell b4.out 0).trans rfl;have s2:i9.cell? ⟨b3,1,none⟩=some (.slice none 0 0):=(blk_cell b4.out 1).trans rfl;have s3:i9.cell? ⟨b3,2,none⟩=some (.slice none 0 0):=(blk_cell b4.out 2).trans rfl;have s4:=blk_frozen b4.out 0;have s5:=blk_frozen b4.out 1;have s6:=blk_frozen b4.out 2)|((with_reducible refine gate_callee (f:=73) rfl ?_);refine goesL_ (some 36) rfl rfl Try.func73 (by kernel_rfl) rfl #[.agg #[.int .i64 ((rd_T30 a5 a8).f0),.slice d9 ((rd_T30 a5 a8).f1).length e0,.slice g1 ((rd_T30 a5 a8).f2).length g2],.int .i64 a1] rfl tz0 ?_;(with_reducible refine (ih k1 (by have:=h1.out;omega) ((rd_T30 a5 a8).f0) _ _ ((rd_T30 a5 a8).f1) _ _ ((rd_T30 a5 a8).f2) a1 g0 h4 true _ ?side1 ?side2 ?side3 ?side4 l6.out).mono ?_);(case side1=>exact Kd.C_below i5.out (belowP HB));(case side2=>exact i6.out);(case side3=>exact Kd.C_below i7.out (belowP HB));(case side4=>exact i8.out);rintro e s7 ⟨rfl,hb⟩;refine ⟨_,rfl,?_⟩;refine ap5 (blk_below (g:=a9) (o:=.cells #[.int .i64 b0,.slice b7 b5.length b8,.slice (some i3) a5.length b9] 30 (0,0)) (by refine blkQ ?_;refine blk_far ?_ d1.out _;refine blkQ ?_;refine blk_far ?_ d1.out _;refine blkQ ?_;refine blk_far ?_ d1.out _;refine blkQ ?_;exact a4.out) hb) (blk_below (g:=b1) (o:=.cells #[.int .i64 d5,.int .i64 c1] 103 (0,0)) (by refine blkQ ?_;refine blk_far ?_ d2.out _;refine blkQ ?_;refine blk_far ?_ d2.out _;refine blkQ ?_;refine blk_far ?_ d2.out _;refine blkQ ?_;exact a6.out) hb) (blk_below (g:=b2) (o:=.cells #[.int .i64 b0,.int .i64 S_] 103 (0,0)) (by refine blkQ ?_;refine blk_far ?_ d3.out _;refine blkQ ?_;refine blk_far ?_ d3.out _;refine blkQ ?_;refine blk_far ?_ d3.out _;refine blkQ ?_;exact a7.out) hb) (blk_below (g:=b3) (o:=.cells #[.int .i64 ((rd_T30 a5 a8).f0),.slice d9 ((rd_T30 a5 a8).f1).length e0,.slice g1 ((rd_T30 a5 a8).f2).length g2] 30 (0,0)) (by refine blkQ ?_;refine blk_put (cs:=#[.int .i64 ((rd_T30 a5 a8).f0),.slice d9 ((rd_T30 a5 a8).f1).length e0,.slice none 0 0]) ?_ 2 _ rfl;refine blkQ ?_;refine blk_put (cs:=#[.int .i64 ((rd_T30 a5 a8).f0),.slice none 0 0,.slice none 0 0]) ?_ 1 _ rfl;refine blkQ ?_;refine blk_put (cs:=#[.int .i64 0,.slice none 0 0,.slice none 0 0]) ?_ 0 _ rfl;refine blkQ ?_;exact b4.out) hb) (below_step (belowP HB) hb) ?_;clear a4 a6 a7 b4 HB;intro a4 a6 a7 b4 HB)|((with_reducible refine gate_dst (N:=9) rfl ?_);refine box_event ?hg (N:=9) ?hd (cs:=#[.int .i64 0,.int .i64 0]) (t:=103) ?hr ?_;(case hd=>rfl);(case hg=>rfl);(case hr=>first|(go_simp;done)|(go_simp;rfl));intro b6 hg f4 hbox hb;refine ap16 (blk_below (blkP a4) hb) (blk_below (blkP a6) hb) (blk_below (blkP a7) hb) (blk_below (blkP b4) hb) (below_step (belowP HB) hb) (hbox) ((by rw [hg];exact (below_size (belowP HB)):w.heap.size≤b6)) ((by rw [hg];exact (below_size (belowP HB)):w.heap.size≤b6)) ((by rw [hg];exact Nat.ne_of_lt (blk_lt (blkP a4)):a9≠b6)) ((by rw [hg];exact Nat.ne_of_gt (blk_lt (blkP a4)):b6≠a9)) ((by rw [hg];exact Nat.ne_of_lt (blk_lt (blkP a6)):b1≠b6)) ((by rw [hg];exact Nat.ne_of_gt (blk_lt (blkP a6)):b6≠b1)) ((by rw [hg];exact Nat.ne_of_lt (blk_lt (blkP a7)):b2≠b6)) ((by rw [hg];exact Nat.ne_of_gt (blk_lt (blkP a7)):b6≠b2)) ((by rw [hg];exact Nat.ne_of_lt (blk_lt (blkP b4)):b3≠b6)) ((by rw [hg];exact Nat.ne_of_gt (blk_lt (blkP b4)):b6≠b3)) ?_;clear a4 a6 a7 b4 HB;intro a4 a6 a7 b4 HB d4 GW253 j6 g7 j7 e4 j8 g8 j9 k0 k2;clear hb hbox hg;have s8:=j7.out;have s9:=g7.out;have t0:=j8.out;have t1:=e4.out;have t2:=j9.out;have t3:=g8.out;have t4:=k2.out;have t5:=k0.out;have t6:f4.cell? ⟨b6,0,none⟩=some (.int .i64 0):=(blk_cell d4.out 0).trans rfl;have t7:f4.cell? ⟨b6,1,none⟩=some (.int .i64 0):=(blk_cell d4.out 1).trans rfl;have t8:=blk_frozen d4.out 0;have t9:=blk_frozen d4.out 1;have u0:=h0.out;have u1:=e9.out;have u2:=f8.out;have u3:=d0.out;have u4:f4.cell? ⟨b2,0,none⟩=some (.int .i64 b0):=(blk_cell a7.out 0).trans rfl;have u5:f4.cell? ⟨b2,1,none⟩=some (.int .i64 S_):=(blk_cell a7.out 1).trans rfl;have u6:=blk_frozen a7.out 0;have u7:=blk_frozen a7.out 1;have u9:=f7.out;have v0:=f6.out;have v1:f4.cell? ⟨b1,0,none⟩=some (.int .i64 d5):=(blk_cell a6.out 0).trans rfl;have v2:f4.cell? ⟨b1,1,none⟩=some (.int .i64 c1):=(blk_cell a6.out 1).trans rfl;have v3:=blk_frozen a6.out 0;have v4:=blk_frozen a6.out 1))
        refine bodyPost_ret (results_ct rfl _ _ b1 103 #[.int .i64 (wrap64 (b0 * g0)),.int .i64 (wrap64 (S_ * h4))] (0,0) _ rfl (by refine blkQ ?_;refine blk_put (cs:=#[.int .i64 (wrap64 (b0 * g0)),.int .i64 c1]) ?_ 1 _ rfl;refine blkQ ?_;refine blk_put (cs:=#[.int .i64 d5,.int .i64 c1]) ?_ 0 _ rfl;refine blkQ ?_;refine blk_far ?_ e4.out _;refine blkQ ?_;refine blk_far ?_ e4.out _;refine blkQ ?_;exact a6.out) Try.underlying103 rfl (by kernel_rfl)) rfl ?_
        exact ⟨rE,by repeat (first|(with_reducible first|exact HB.out|apply below_alloc|apply pw_below_drewN|apply below_drew1|refine below_set ?_ e6.out|refine below_set ?_ e7.out|refine below_set ?_ e8.out|refine below_set ?_ j2.out|refine below_set ?_ j6.out)|exact HB.out)⟩
       ·replace h5:=Bool.eq_false_iff.mpr h5
        subst h5
        rw [if_neg (show ¬ (false=true) by decide)] at H
        have H':=Aside0.mk H
        clear H
        have d7:0≤(a8:Int):=of_decide_eq_true tz2
        have d8:a8 < (a5.length:Int):=of_decide_eq_true tz2
        obtain ⟨i3,d9,e0,g1,g2,i4,e1,e2,e3,g3,g4,g5,g6⟩:=at_T30 k9.out a8 d7 d8
        cases i4
        replace e1:=(HB.out.cell (World.block_lt_of_cell? w _ e1)).trans e1
        replace e2:=(HB.out.cell (World.block_lt_of_cell? w _ e2)).trans e2
        replace e3:=(HB.out.cell (World.block_lt_of_cell? w _ e3)).trans e3
        have i5:=Aside0.mk g4
        have i6:=Aside0.mk g3
        clear g4 g3
        have i7:=Aside0.mk g6
        have i8:=Aside0.mk g5
        clear g6 g5
        replace d7:=eq_true d7
        replace d8:=eq_true d8
        go_wp2_with (first|((with_reducible refine gate_dst (N:=8) rfl ?_);refine box_event ?hg (N:=8) ?hd (cs:=#[.int .i64 0,.slice none 0 0,.slice none 0 0]) (t:=30) ?hr ?_;(case hd=>rfl);(case hg=>rfl);(case hr=>first|(go_simp;done)|(go_simp;rfl));intro b3 hg k3 hbox hb;refine ap13 (blk_below (blkP a4) hb) (blk_below (blkP a6) hb) (blk_below (blkP a7) hb) (below_step (belowP HB) hb) (hbox) ((by rw [hg];exact (below_size (belowP HB)):w.heap.size≤b3)) ((by rw [hg];exact (below_size (belowP HB)):w.heap.size≤b3)) ((by rw [hg];exact Nat.ne_of_lt (blk_lt (blkP a4)):a9≠b3)) ((by rw [hg];exact Nat.ne_of_gt (blk_lt (blkP a4)):b3≠a9)) ((by rw [hg];exact Nat.ne_of_lt (blk_lt (blkP a6)):b1≠b3)) ((by rw [hg];exact Nat.ne_of_gt (blk_lt (blkP a6)):b3≠b1)) ((by rw [hg];exact Nat.ne_of_lt (blk_lt (blkP a7)):b2≠b3)) ((by rw [hg];exact Nat.ne_of_gt (blk_lt (blkP a7)):b3≠b2)) ?_;clear a4 a6 a7 HB;intro a4 a6 a7 HB b4 GW249 j2 d1 j3 d2 j4 d3 j5;clear hb hbox hg;have v5:=j3.out;have v6:=d1.out;have v7:=j4.out;have v8:=d2.out;have v9:=j5.out;have w0:=d3.out;have w1:k3.cell? ⟨b3,0,none⟩=some (.int .i64 0):=(blk_cell b4.out 0).trans rfl;have w2:k3.cell? ⟨b3,1,none⟩=some (.slice none 0 0):=(blk_cell b4.out 1).trans rfl;have w3:k3.cell? ⟨b3,2,none⟩=some (.slice none 0 0):=(blk_cell b4.out 2).trans rfl;have w4:=blk_frozen b4.out 0;have w7:=blk_frozen b4.out 1;have w8:=blk_frozen b4.out 2)|((with_reducible refine gate_callee (f:=73) rfl ?_);refine goesL_ (some 36) rfl rfl Try.func73 (by kernel_rfl) rfl #[.agg #[.int .i64 ((rd_T30 a5 a8).f0),.slice d9 ((rd_T30 a5 a8).f1).length e0,.slice g1 ((rd_T30 a5 a8).f2).length g2],.int .i64 a1] rfl tz0 ?_;(with_reducible refine (ih k1 (by have:=h1.out;omega) ((rd_T30 a5 a8).f0) _ _ ((rd_T30 a5 a8).f1) _ _ ((rd_T30 a5 a8).f2) a1 g0 h4 false _ ?side1 ?side2 ?side3 ?side4 l6.out).mono ?_);(case side1=>exact Kd.C_below i5.out (belowP HB));(case side2=>exact i6.out);(case side3=>exact Kd.C_below i7.out (belowP HB));(case side4=>exact i8.out);rintro e x0 ⟨rfl,hb⟩;refine ⟨_,rfl,?_⟩;refine ap5 (blk_below (g:=a9) (o:=.cells #[.int .i64 b0,.slice b7 b5.length b8,.slice (some i3) a5.length b9] 30 (0,0)) (by refine blkQ ?_;refine blk_far ?_ d1.out _;refine blkQ ?_;refine blk_far ?_ d1.out _;refine blkQ ?_;refine blk_far ?_ d1.out _;refine blkQ ?_;exact a4.out) hb) (blk_below (g:=b1) (o:=.cells #[.int .i64 d5,.int .i64 c1] 103 (0,0)) (by refine blkQ ?_;refine blk_far ?_ d2.out _;refine blkQ ?_;refine blk_far ?_ d2.out _;refine blkQ ?_;refine blk_far ?_ d2.out _;refine blkQ ?_;exact a6.out) hb) (blk_below (g:=b2) (o:=.cells #[.int .i64 b0,.int .i64 S_] 103 (0,0)) (by refine blkQ ?_;refine blk_far ?_ d3.out _;refine blkQ ?_;refine blk_far ?_ d3.out _;refine blkQ ?_;refine blk_far ?_ d3.out _;refine blkQ ?_;exact a7.out) hb) (blk_below (g:=b3) (o:=.cells #[.int .i64 ((rd_T30 a5 a8).f0),.slice d9 ((rd_T30 a5 a8).f1).length e0,.slice g1 ((rd_T30 a5 a8).f2).length g2] 30 (0,0)) (by refine blkQ ?_;refine blk_put (cs:=#[.int .i64 ((rd_T30 a5 a8).f0),.slice d9 ((rd_T30 a5 a8).f1).length e0,.slice none 0 0]) ?_ 2 _ rfl;refine blkQ ?_;refine blk_put (cs:=#[.int .i64 ((rd_T30 a5 a8).f0),.slice none 0 0,.slice none 0 0]) ?_ 1 _ rfl;refine blkQ ?_;refine blk_put (cs:=#[.int .i64 0,.slice none 0 0,.slice none 0 0]) ?_ 0 _ rfl;refine blkQ ?_;exact b4.out) hb) (below_step (belowP HB) hb) ?_;clear a4 a6 a7 b4 HB;intro a4 a6 a7 b4 HB)|((with_reducible refine gate_dst (N:=9) rfl ?_);refine box_event ?hg (N:=9) ?hd (cs:=#[.int .i64 0,.int .i64 0]) (t:=103) ?hr ?_;(case hd=>rfl);(case hg=>rfl);(case hr=>first|(go_simp;done)|(go_simp;rfl));intro b6 hg l7 hbox hb;refine ap16 (blk_below (blkP a4) hb) (blk_below (blkP a6) hb) (blk_below (blkP a7) hb) (blk_below (blkP b4) hb) (below_step (belowP HB) hb) (hbox) ((by rw [hg];exact (below_size (belowP HB)):w.heap.size≤b6)) ((by rw [hg];exact (below_size (belowP HB)):w.heap.size≤b6)) ((by rw [hg];exact Nat.ne_of_lt (blk_lt (blkP a4)):a9≠b6)) ((by rw [hg];exact Nat.ne_of_gt (blk_lt (blkP a4)):b6≠a9)) ((by rw [hg];exact Nat.ne_of_lt (blk_lt (blkP a6)):b1≠b6)) ((by rw [hg];exact Nat.ne_of_gt (blk_lt (blkP a6)):b6≠b1)) ((by rw [hg];exact Nat.ne_of_lt (blk_lt (blkP a7)):b2≠b6)) ((by rw [hg];exact Nat.ne_of_gt (blk_lt (blkP a7)):b6≠b2)) ((by rw [hg];exact Nat.ne_of_lt (blk_lt (blkP b4)):b3≠b6)) ((by rw [hg];exact Nat.ne_of_gt (blk_lt (blkP b4)):b6≠b3)) ?_;clear a4 a6 a7 b4 HB;intro a4 a6 a7 b4 HB d4 GW253 j6 g7 j7 e4 j8 g8 j9 k0 k2;clear hb hbox hg;have x2:=j7.out;have x3:=g7.out;have x4:=j8.out;have x5:=e4.out;have x6:=j9.out;have x7:=g8.out;have x8:=k2.out;have x9:=k0.out;have y6:l7.cell? ⟨b6,0,none⟩=some (.int .i64 0):=(blk_cell d4.out 0).trans rfl;have y7:l7.cell? ⟨b6,1,none⟩=some (.int .i64 0):=(blk_cell d4.out 1).trans rfl;have y8:=blk_frozen d4.out 0;have y9:=blk_frozen d4.out 1))
        go_roundg k1
        case measure=>have:=h1.out;omega
        case rel=>exact ⟨(wrap64 (a8 + 1)),(d5),(c1),tz3,H',⟨by have:=h1.out;omega⟩,⟨by refine blkQ ?_;refine blk_far ?_ g7.out _;refine blkQ ?_;refine blk_far ?_ g7.out _;refine blkQ ?_;exact a4.out⟩,⟨by refine blkQ ?_;refine blk_far ?_ e4.out _;refine blkQ ?_;refine blk_far ?_ e4.out _;refine blkQ ?_;exact a6.out⟩,⟨by refine blkQ ?_;refine blk_far ?_ g8.out _;refine blkQ ?_;refine blk_far ?_ g8.out _;refine blkQ ?_;exact a7.out⟩,⟨by repeat (first|(with_reducible first|exact HB.out|apply below_alloc|apply pw_below_drewN|apply below_drew1|refine below_set ?_ e6.out|refine below_set ?_ e7.out|refine below_set ?_ e8.out|refine below_set ?_ j2.out|refine below_set ?_ j6.out)|exact HB.out)⟩⟩
      ·rw [if_neg h3] at H
       exact absurd H (by simp)
     ·rw [if_neg h2] at H
      exact absurd H (by simp)
    ·rw [if_neg f3] at H
     have p5:decide (a8 < (a5.length:Int))=false:=decide_eq_false f3
     clear f3
     simp only [Option.some.injEq,Prod.mk.injEq] at H
     obtain ⟨rfl,rfl,rfl⟩:=H
     have z0:=f7.out
     have z1:=f6.out
     have z2:=d0.out
     have z3:=f8.out
     obtain ⟨z4,z5⟩:=cells2 a6.out
     obtain ⟨z6,z7⟩:=froz2 a6.out
     go_wp2
     refine bodyPost_ret (results_ct rfl _ _ b1 103 #[.int .i64 0,.int .i64 0] (0,0) _ rfl (by refine blkQ ?_;refine blk_put (cs:=#[.int .i64 0,.int .i64 c1]) ?_ 1 _ rfl;refine blkQ ?_;refine blk_put (cs:=#[.int .i64 d5,.int .i64 c1]) ?_ 0 _ rfl;refine blkQ ?_;exact a6.out) Try.underlying103 rfl (by kernel_rfl)) rfl ?_
     exact ⟨rE,by repeat (first|(with_reducible first|exact HB.out|apply below_alloc|apply pw_below_drewN|apply below_drew1|refine below_set ?_ e6.out|refine below_set ?_ e7.out|refine below_set ?_ e8.out)|exact HB.out)⟩
def leaders_neighbour.f (k:Nat) (b3:Int) (b0:List Int) (b1:List (S30)) (a1:Int) (a2:Int) (a3:Int) (a4:Int):Option (Bool):=if a4=a1 then (some true) else ((leaders_weight.f k b3 b0 b1 a4).bind fun d6=>(if d6.2.2=true then ((leaders_Hash.f 1 a2 a3 a4).bind fun d1=>(some (decide ((IntKind.u64.wrap ((IntKind.u64.wrap (d1)) * (IntKind.u64.wrap (d6.2.1)))) < (IntKind.u64.wrap ((IntKind.u64.wrap (d6.1)) * 4294967296)))))) else (some false)))
theorem leaders_neighbour.mono:∀ a0 a1 a2 a3 a4 a5 a6 k,LeO (leaders_neighbour.f k a0 a1 a2 a3 a4 a5 a6) (leaders_neighbour.f (k + 1) a0 a1 a2 a3 a4 a5 a6):=by
 intro a0 a1 a2 a3 a4 a5 a6 k
 unfold leaders_neighbour.f
 repeat' first
   | (with_reducible apply leaders_weight.mono)
   | (with_reducible exact LeO.refl _)
   | (with_reducible exact LeO.none _)
   | (with_reducible refine LeO.ite ?_ ?_)
   | (with_reducible refine LeO.bind ?_ (fun _=>?_))
set_option maxHeartbeats 8000000 in
set_option maxRecDepth 100000 in
theorem leaders_neighbour.calls (k:Nat) (b3:Int) (b4:Option Addr) (b5:Nat) (b0:List Int) (b6:Option Addr) (b7:Nat) (b1:List (S30)) (a1:Int) (a2:Int) (a3:Int) (a4:Int) (r:Bool) (w:World) (e3:Kd.C (Kd.int .i64) w b4 b0.length b0) (e4:b0.length≤b5) (e5:Kd.C k30 w b6 b1.length b1) (e6:b1.length≤b7) (h:leaders_neighbour.f k b3 b0 b1 a1 a2 a3 a4=some r) :
  Calls Try.prog 62 #[.agg #[.int .i64 b3,.slice b4 b0.length b5,.slice b6 b1.length b7],.int .i64 a1,.int .i64 a2,.int .i64 a3,.int .i64 a4] w fun e w'=>e = .returned (.bool r)∧Below w.heap.size w w':=by
 have hu30:=Try.underlying30
 have hu103:=Try.underlying103
 have d8:=Aside0.mk e3
 have d9:=Aside0.mk e4
 clear e3 e4
 have e0:=Aside0.mk e5
 have e1:=Aside0.mk e6
 clear e5 e6
 have HB:=Aside0.mk (Below.refl w.heap.size w)
 have H:(if a4=a1 then (some true) else ((leaders_weight.f k b3 b0 b1 a4).bind fun d6=>(if d6.2.2=true then ((leaders_Hash.f 1 a2 a3 a4).bind fun d1=>(some (decide ((IntKind.u64.wrap ((IntKind.u64.wrap (d1)) * (IntKind.u64.wrap (d6.2.1)))) < (IntKind.u64.wrap ((IntKind.u64.wrap (d6.1)) * 4294967296)))))) else (some false))))=some r:=h
 clear h
 by_cases c6:a4=a1
 ·rw [if_pos c6] at H
  have h6:(a4 == a1)=true:=beq_iff_eq.mpr c6
  have h7:(a4 != a1)=false:=bne_eq_false_iff_eq.mpr c6
  clear c6
  obtain rfl:=Option.some.inj H
  go_enter Try.func62,Try.ntmps62
  go_wp2_with (first|((with_reducible refine gate_dst (N:=5) rfl ?_);refine box_event ?hg (N:=5) ?hd (cs:=#[.int .i64 b3,.slice b4 b0.length b5,.slice b6 b1.length b7]) (t:=30) ?hr ?_;(case hd=>rfl);(case hg=>rfl);(case hr=>first|(go_simp;done)|(go_simp;rfl));intro a8 hg w7 hbox hb;refine ap4 (below_step (belowP HB) hb) (hbox) ((by rw [hg];exact (below_size (belowP HB)):w.heap.size≤a8)) ((by rw [hg];exact (below_size (belowP HB)):w.heap.size≤a8)) ?_;clear HB;intro HB a7 GW254 b8;clear hb hbox hg))
  repeat (go_quiet (first|((with_reducible refine gate_dst (N:=5) rfl ?_);refine box_event ?hg (N:=5) ?hd (cs:=#[.int .i64 b3,.slice b4 b0.length b5,.slice b6 b1.length b7]) (t:=30) ?hr ?_;(case hd=>rfl);(case hg=>rfl);(case hr=>first|(go_simp;done)|(go_simp;rfl));intro a8 hg w7 hbox hb;refine ap4 (below_step (belowP HB) hb) (hbox) ((by rw [hg];exact (below_size (belowP HB)):w.heap.size≤a8)) ((by rw [hg];exact (below_size (belowP HB)):w.heap.size≤a8)) ?_;clear HB;intro HB a7 GW254 b8;clear hb hbox hg));try go_wp2_with (first|((with_reducible refine gate_dst (N:=5) rfl ?_);refine box_event ?hg (N:=5) ?hd (cs:=#[.int .i64 b3,.slice b4 b0.length b5,.slice b6 b1.length b7]) (t:=30) ?hr ?_;(case hd=>rfl);(case hg=>rfl);(case hr=>first|(go_simp;done)|(go_simp;rfl));intro a8 hg w7 hbox hb;refine ap4 (below_step (belowP HB) hb) (hbox) ((by rw [hg];exact (below_size (belowP HB)):w.heap.size≤a8)) ((by rw [hg];exact (below_size (belowP HB)):w.heap.size≤a8)) ?_;clear HB;intro HB a7 GW254 b8;clear hb hbox hg)))
  go_ret
  exact ⟨rE,by repeat (first|(with_reducible first|exact HB.out|apply below_alloc|apply pw_below_drewN|apply below_drew1|refine below_set ?_ b8.out)|exact HB.out)⟩
 ·rw [if_neg c6] at H
  have h6:(a4 == a1)=false:=beq_eq_false_iff_ne.mpr c6
  have h7:(a4 != a1)=true:=bne_iff_ne.mpr c6
  replace H:=Option.bind_eq_some_iff.mp H
  obtain ⟨⟨d2,d3,e7⟩,e8,H⟩:=H
  replace H:(if e7=true then ((leaders_Hash.f 1 a2 a3 a4).bind fun d1=>(some (decide ((IntKind.u64.wrap ((IntKind.u64.wrap (d1)) * (IntKind.u64.wrap (d3)))) < (IntKind.u64.wrap ((IntKind.u64.wrap (d2)) * 4294967296)))))) else (some false))=some r:=H
  have A8:=Aside0.mk e8
  clear e8
  by_cases c9:e7=true
  ·subst c9
   rw [if_pos rfl] at H
   replace H:=Option.bind_eq_some_iff.mp H
   obtain ⟨d1,e9,H⟩:=H
   replace H:(some (decide ((IntKind.u64.wrap ((IntKind.u64.wrap (d1)) * (IntKind.u64.wrap (d3)))) < (IntKind.u64.wrap ((IntKind.u64.wrap (d2)) * 4294967296)))))=some r:=H
   have e2:=Aside0.mk e9
   clear e9
   obtain rfl:=Option.some.inj H
   go_enter Try.func62,Try.ntmps62
   go_wp2_with (first|((with_reducible refine gate_dst (N:=5) rfl ?_);refine box_event ?hg (N:=5) ?hd (cs:=#[.int .i64 b3,.slice b4 b0.length b5,.slice b6 b1.length b7]) (t:=30) ?hr ?_;(case hd=>rfl);(case hg=>rfl);(case hr=>first|(go_simp;done)|(go_simp;rfl));intro a8 hg b9 hbox hb;refine ap4 (below_step (belowP HB) hb) (hbox) ((by rw [hg];exact (below_size (belowP HB)):w.heap.size≤a8)) ((by rw [hg];exact (below_size (belowP HB)):w.heap.size≤a8)) ?_;clear HB;intro HB a7 GW254 b8;clear hb hbox hg;have f0:b9.cell? ⟨a8,0,none⟩=some (.int .i64 b3):=(blk_cell a7.out 0).trans rfl;have f1:b9.cell? ⟨a8,1,none⟩=some (.slice b4 b0.length b5):=(blk_cell a7.out 1).trans rfl;have f2:b9.cell? ⟨a8,2,none⟩=some (.slice b6 b1.length b7):=(blk_cell a7.out 2).trans rfl;have f3:=blk_frozen a7.out 0;have f4:=blk_frozen a7.out 1;have f5:=blk_frozen a7.out 2)|(go_at_call 73;(with_reducible refine (leaders_weight.calls k b3 _ _ b0 _ _ b1 a4 d2 d3 true _ ?side1 ?side2 ?side3 ?side4 A8.out).mono ?_);(case side1=>exact Kd.C_q (Kd.C_below d8.out HB.out));(case side2=>exact d9.out);(case side3=>exact Kd.C_q (Kd.C_below e0.out HB.out));(case side4=>exact e1.out);rintro e f6 ⟨rfl,hb⟩;refine ap2 (blk_below (blkP a7) hb) (below_step (belowP HB) hb) ?_;clear a7 HB;intro a7 HB)|((with_reducible refine gate_dst (N:=11) rfl ?_);refine box_event ?hg (N:=11) ?hd (cs:=#[.int .i64 0,.int .i64 0]) (t:=103) ?hr ?_;(case hd=>rfl);(case hg=>rfl);(case hr=>first|(go_simp;done)|(go_simp;rfl));intro a9 hg d4 hbox hb;refine ap7 (blk_below (blkP a7) hb) (below_step (belowP HB) hb) (hbox) ((by rw [hg];exact (below_size (belowP HB)):w.heap.size≤a9)) ((by rw [hg];exact (below_size (belowP HB)):w.heap.size≤a9)) ((by rw [hg];exact Nat.ne_of_lt (blk_lt (blkP a7)):a8≠a9)) ((by rw [hg];exact Nat.ne_of_gt (blk_lt (blkP a7)):a9≠a8)) ?_;clear a7 HB;intro a7 HB b2 GW258 d7 c0 c1;clear hb hbox hg;have f7:=c1.out;have f8:=c0.out;have f9:d4.cell? ⟨a9,0,none⟩=some (.int .i64 0):=(blk_cell b2.out 0).trans rfl;have g0:d4.cell? ⟨a9,1,none⟩=some (.int .i64 0):=(blk_cell b2.out 1).trans rfl;have g1:=blk_frozen b2.out 0;have g2:=blk_frozen b2.out 1)|(go_at_call 63;(with_reducible refine (leaders_Hash.calls 1 a2 a3 a4 d1 _ e2.out).mono ?_);rintro e w' ⟨rfl,⟨nd,rfl⟩⟩;(try first|exact ⟨rfl,_,World.drewN_drewN _ _ _⟩|exact ⟨rfl,_,Eq.trans (World.drewN_drewN _ _ _) (congrArg (World.drewN _) (Nat.add_assoc _ _ _))⟩)))
   repeat (go_quiet (first|((with_reducible refine gate_dst (N:=5) rfl ?_);refine box_event ?hg (N:=5) ?hd (cs:=#[.int .i64 b3,.slice b4 b0.length b5,.slice b6 b1.length b7]) (t:=30) ?hr ?_;(case hd=>rfl);(case hg=>rfl);(case hr=>first|(go_simp;done)|(go_simp;rfl));intro a8 hg b9 hbox hb;refine ap4 (below_step (belowP HB) hb) (hbox) ((by rw [hg];exact (below_size (belowP HB)):w.heap.size≤a8)) ((by rw [hg];exact (below_size (belowP HB)):w.heap.size≤a8)) ?_;clear HB;intro HB a7 GW254 b8;clear hb hbox hg;have f0:b9.cell? ⟨a8,0,none⟩=some (.int .i64 b3):=(blk_cell a7.out 0).trans rfl;have f1:b9.cell? ⟨a8,1,none⟩=some (.slice b4 b0.length b5):=(blk_cell a7.out 1).trans rfl;have f2:b9.cell? ⟨a8,2,none⟩=some (.slice b6 b1.length b7):=(blk_cell a7.out 2).trans rfl;have f3:=blk_frozen a7.out 0;have f4:=blk_frozen a7.out 1;have f5:=blk_frozen a7.out 2)|(go_at_call 73;(with_reducible refine (leaders_weight.calls k b3 _ _ b0 _ _ b1 a4 d2 d3 true _ ?side1 ?side2 ?side3 ?side4 A8.out).mono ?_);(case side1=>exact Kd.C_q (Kd.C_below d8.out HB.out));(case side2=>exact d9.out);(case side3=>exact Kd.C_q (Kd.C_below e0.out HB.out));(case side4=>exact e1.out);rintro e f6 ⟨rfl,hb⟩;refine ap2 (blk_below (blkP a7) hb) (below_step (belowP HB) hb) ?_;clear a7 HB;intro a7 HB)|((with_reducible refine gate_dst (N:=11) rfl ?_);refine box_event ?hg (N:=11) ?hd (cs:=#[.int .i64 0,.int .i64 0]) (t:=103) ?hr ?_;(case hd=>rfl);(case hg=>rfl);(case hr=>first|(go_simp;done)|(go_simp;rfl));intro a9 hg d4 hbox hb;refine ap7 (blk_below (blkP a7) hb) (below_step (belowP HB) hb) (hbox) ((by rw [hg];exact (below_size (belowP HB)):w.heap.size≤a9)) ((by rw [hg];exact (below_size (belowP HB)):w.heap.size≤a9)) ((by rw [hg];exact Nat.ne_of_lt (blk_lt (blkP a7)):a8≠a9)) ((by rw [hg];exact Nat.ne_of_gt (blk_lt (blkP a7)):a9≠a8)) ?_;clear a7 HB;intro a7 HB b2 GW258 d7 c0 c1;clear hb hbox hg;have f7:=c1.out;have f8:=c0.out;have f9:d4.cell? ⟨a9,0,none⟩=some (.int .i64 0):=(blk_cell b2.out 0).trans rfl;have g0:d4.cell? ⟨a9,1,none⟩=some (.int .i64 0):=(blk_cell b2.out 1).trans rfl;have g1:=blk_frozen b2.out 0;have g2:=blk_frozen b2.out 1)|(go_at_call 63;(with_reducible refine (leaders_Hash.calls 1 a2 a3 a4 d1 _ e2.out).mono ?_);rintro e w' ⟨rfl,⟨nd,rfl⟩⟩;(try first|exact ⟨rfl,_,World.drewN_drewN _ _ _⟩|exact ⟨rfl,_,Eq.trans (World.drewN_drewN _ _ _) (congrArg (World.drewN _) (Nat.add_assoc _ _ _))⟩)));try go_wp2_with (first|((with_reducible refine gate_dst (N:=5) rfl ?_);refine box_event ?hg (N:=5) ?hd (cs:=#[.int .i64 b3,.slice b4 b0.length b5,.slice b6 b1.length b7]) (t:=30) ?hr ?_;(case hd=>rfl);(case hg=>rfl);(case hr=>first|(go_simp;done)|(go_simp;rfl));intro a8 hg b9 hbox hb;refine ap4 (below_step (belowP HB) hb) (hbox) ((by rw [hg];exact (below_size (belowP HB)):w.heap.size≤a8)) ((by rw [hg];exact (below_size (belowP HB)):w.heap.size≤a8)) ?_;clear HB;intro HB a7 GW254 b8;clear hb hbox hg;have f0:b9.cell? ⟨a8,0,none⟩=some (.int .i64 b3):=(blk_cell a7.out 0).trans rfl;have f1:b9.cell? ⟨a8,1,none⟩=some (.slice b4 b0.length b5):=(blk_cell a7.out 1).trans rfl;have f2:b9.cell? ⟨a8,2,none⟩=some (.slice b6 b1.length b7):=(blk_cell a7.out 2).trans rfl;have f3:=blk_frozen a7.out 0;have f4:=blk_frozen a7.out 1;have f5:=blk_frozen a7.out 2)|(go_at_call 73;(with_reducible refine (leaders_weight.calls k b3 _ _ b0 _ _ b1 a4 d2 d3 true _ ?side1 ?side2 ?side3 ?side4 A8.out).mono ?_);(case side1=>exact Kd.C_q (Kd.C_below d8.out HB.out));(case side2=>exact d9.out);(case side3=>exact Kd.C_q (Kd.C_below e0.out HB.out));(case side4=>exact e1.out);rintro e f6 ⟨rfl,hb⟩;refine ap2 (blk_below (blkP a7) hb) (below_step (belowP HB) hb) ?_;clear a7 HB;intro a7 HB)|((with_reducible refine gate_dst (N:=11) rfl ?_);refine box_event ?hg (N:=11) ?hd (cs:=#[.int .i64 0,.int .i64 0]) (t:=103) ?hr ?_;(case hd=>rfl);(case hg=>rfl);(case hr=>first|(go_simp;done)|(go_simp;rfl));intro a9 hg d4 hbox hb;refine ap7 (blk_below (blkP a7) hb) (below_step (belowP HB) hb) (hbox) ((by rw [hg];exact (below_size (belowP HB)):w.heap.size≤a9)) ((by rw [hg];exact (below_size (belowP HB)):w.heap.size≤a9)) ((by rw [hg];exact Nat.ne_of_lt (blk_lt (blkP a7)):a8≠a9)) ((by rw [hg];exact Nat.ne_of_gt (blk_lt (blkP a7)):a9≠a8)) ?_;clear a7 HB;intro a7 HB b2 GW258 d7 c0 c1;clear hb hbox hg;have f7:=c1.out;have f8:=c0.out;have f9:d4.cell? ⟨a9,0,none⟩=some (.int .i64 0):=(blk_cell b2.out 0).trans rfl;have g0:d4.cell? ⟨a9,1,none⟩=some (.int .i64 0):=(blk_cell b2.out 1).trans rfl;have g1:=blk_frozen b2.out 0;have g2:=blk_frozen b2.out 1)|(go_at_call 63;(with_reducible refine (leaders_Hash.calls 1 a2 a3 a4 d1 _ e2.out).mono ?_);rintro e w' ⟨rfl,⟨nd,rfl⟩⟩;(try first|exact ⟨rfl,_,World.drewN_drewN _ _ _⟩|exact ⟨rfl,_,Eq.trans (World.drewN_drewN _ _ _) (congrArg (World.drewN _) (Nat.add_assoc _ _ _))⟩))))
   go_ret
   exact ⟨rE,by repeat (first|(with_reducible first|exact HB.out|apply below_alloc|apply pw_below_drewN|apply below_drew1|refine below_set ?_ b8.out|refine below_set ?_ d7.out)|exact HB.out)⟩
  ·replace c9:=Bool.eq_false_iff.mpr c9
   subst c9
   rw [if_neg (show ¬ (false=true) by decide)] at H
   obtain rfl:=Option.some.inj H
   go_enter Try.func62,Try.ntmps62
   go_wp2_with (first|((with_reducible refine gate_dst (N:=5) rfl ?_);refine box_event ?hg (N:=5) ?hd (cs:=#[.int .i64 b3,.slice b4 b0.length b5,.slice b6 b1.length b7]) (t:=30) ?hr ?_;(case hd=>rfl);(case hg=>rfl);(case hr=>first|(go_simp;done)|(go_simp;rfl));intro a8 hg d0 hbox hb;refine ap4 (below_step (belowP HB) hb) (hbox) ((by rw [hg];exact (below_size (belowP HB)):w.heap.size≤a8)) ((by rw [hg];exact (below_size (belowP HB)):w.heap.size≤a8)) ?_;clear HB;intro HB a7 GW254 b8;clear hb hbox hg;have g3:d0.cell? ⟨a8,0,none⟩=some (.int .i64 b3):=(blk_cell a7.out 0).trans rfl;have g4:d0.cell? ⟨a8,1,none⟩=some (.slice b4 b0.length b5):=(blk_cell a7.out 1).trans rfl;have g5:d0.cell? ⟨a8,2,none⟩=some (.slice b6 b1.length b7):=(blk_cell a7.out 2).trans rfl;have g6:=blk_frozen a7.out 0;have g7:=blk_frozen a7.out 1;have g8:=blk_frozen a7.out 2)|(go_at_call 73;(with_reducible refine (leaders_weight.calls k b3 _ _ b0 _ _ b1 a4 d2 d3 false _ ?side1 ?side2 ?side3 ?side4 A8.out).mono ?_);(case side1=>exact Kd.C_q (Kd.C_below d8.out HB.out));(case side2=>exact d9.out);(case side3=>exact Kd.C_q (Kd.C_below e0.out HB.out));(case side4=>exact e1.out);rintro e g9 ⟨rfl,hb⟩;refine ap2 (blk_below (blkP a7) hb) (below_step (belowP HB) hb) ?_;clear a7 HB;intro a7 HB)|((with_reducible refine gate_dst (N:=11) rfl ?_);refine box_event ?hg (N:=11) ?hd (cs:=#[.int .i64 0,.int .i64 0]) (t:=103) ?hr ?_;(case hd=>rfl);(case hg=>rfl);(case hr=>first|(go_simp;done)|(go_simp;rfl));intro a9 hg d5 hbox hb;refine ap7 (blk_below (blkP a7) hb) (below_step (belowP HB) hb) (hbox) ((by rw [hg];exact (below_size (belowP HB)):w.heap.size≤a9)) ((by rw [hg];exact (below_size (belowP HB)):w.heap.size≤a9)) ((by rw [hg];exact Nat.ne_of_lt (blk_lt (blkP a7)):a8≠a9)) ((by rw [hg];exact Nat.ne_of_gt (blk_lt (blkP a7)):a9≠a8)) ?_;clear a7 HB;intro a7 HB b2 GW258 d7 c0 c1;clear hb hbox hg;have h0:=c1.out;have h1:=c0.out;have h2:d5.cell? ⟨a9,0,none⟩=some (.int .i64 0):=(blk_cell b2.out 0).trans rfl;have h3:d5.cell? ⟨a9,1,none⟩=some (.int .i64 0):=(blk_cell b2.out 1).trans rfl;have h4:=blk_frozen b2.out 0;have h5:=blk_frozen b2.out 1))
   repeat (go_quiet (first|((with_reducible refine gate_dst (N:=5) rfl ?_);refine box_event ?hg (N:=5) ?hd (cs:=#[.int .i64 b3,.slice b4 b0.length b5,.slice b6 b1.length b7]) (t:=30) ?hr ?_;(case hd=>rfl);(case hg=>rfl);(case hr=>first|(go_simp;done)|(go_simp;rfl));intro a8 hg d0 hbox hb;refine ap4 (below_step (belowP HB) hb) (hbox) ((by rw [hg];exact (below_size (belowP HB)):w.heap.size≤a8)) ((by rw [hg];exact (below_size (belowP HB)):w.heap.size≤a8)) ?_;clear HB;intro HB a7 GW254 b8;clear hb hbox hg;have g3:d0.cell? ⟨a8,0,none⟩=some (.int .i64 b3):=(blk_cell a7.out 0).trans rfl;have g4:d0.cell? ⟨a8,1,none⟩=some (.slice b4 b0.length b5):=(blk_cell a7.out 1).trans rfl;have g5:d0.cell? ⟨a8,2,none⟩=some (.slice b6 b1.length b7):=(blk_cell a7.out 2).trans rfl;have g6:=blk_frozen a7.out 0;have g7:=blk_frozen a7.out 1;have g8:=blk_frozen a7.out 2)|(go_at_call 73;(with_reducible refine (leaders_weight.calls k b3 _ _ b0 _ _ b1 a4 d2 d3 false _ ?side1 ?side2 ?side3 ?side4 A8.out).mono ?_);(case side1=>exact Kd.C_q (Kd.C_below d8.out HB.out));(case side2=>exact d9.out);(case side3=>exact Kd.C_q (Kd.C_below e0.out HB.out));(case side4=>exact e1.out);rintro e g9 ⟨rfl,hb⟩;refine ap2 (blk_below (blkP a7) hb) (below_step (belowP HB) hb) ?_;clear a7 HB;intro a7 HB)|((with_reducible refine gate_dst (N:=11) rfl ?_);refine box_event ?hg (N:=11) ?hd (cs:=#[.int .i64 0,.int .i64 0]) (t:=103) ?hr ?_;(case hd=>rfl);(case hg=>rfl);(case hr=>first|(go_simp;done)|(go_simp;rfl));intro a9 hg d5 hbox hb;refine ap7 (blk_below (blkP a7) hb) (below_step (belowP HB) hb) (hbox) ((by rw [hg];exact (below_size (belowP HB)):w.heap.size≤a9)) ((by rw [hg];exact (below_size (belowP HB)):w.heap.size≤a9)) ((by rw [hg];exact Nat.ne_of_lt (blk_lt (blkP a7)):a8≠a9)) ((by rw [hg];exact Nat.ne_of_gt (blk_lt (blkP a7)):a9≠a8)) ?_;clear a7 HB;intro a7 HB b2 GW258 d7 c0 c1;clear hb hbox hg;have h0:=c1.out;have h1:=c0.out;have h2:d5.cell? ⟨a9,0,none⟩=some (.int .i64 0):=(blk_cell b2.out 0).trans rfl;have h3:d5.cell? ⟨a9,1,none⟩=some (.int .i64 0):=(blk_cell b2.out 1).trans rfl;have h4:=blk_frozen b2.out 0;have h5:=blk_frozen b2.out 1));try go_wp2_with (first|((with_reducible refine gate_dst (N:=5) rfl ?_);refine box_event ?hg (N:=5) ?hd (cs:=#[.int .i64 b3,.slice b4 b0.length b5,.slice b6 b1.length b7]) (t:=30) ?hr ?_;(case hd=>rfl);(case hg=>rfl);(case hr=>first|(go_simp;done)|(go_simp;rfl));intro a8 hg d0 hbox hb;refine ap4 (below_step (belowP HB) hb) (hbox) ((by rw [hg];exact (below_size (belowP HB)):w.heap.size≤a8)) ((by rw [hg];exact (below_size (belowP HB)):w.heap.size≤a8)) ?_;clear HB;intro HB a7 GW254 b8;clear hb hbox hg;have g3:d0.cell? ⟨a8,0,none⟩=some (.int .i64 b3):=(blk_cell a7.out 0).trans rfl;have g4:d0.cell? ⟨a8,1,none⟩=some (.slice b4 b0.length b5):=(blk_cell a7.out 1).trans rfl;have g5:d0.cell? ⟨a8,2,none⟩=some (.slice b6 b1.length b7):=(blk_cell a7.out 2).trans rfl;have g6:=blk_frozen a7.out 0;have g7:=blk_frozen a7.out 1;have g8:=blk_frozen a7.out 2)|(go_at_call 73;(with_reducible refine (leaders_weight.calls k b3 _ _ b0 _ _ b1 a4 d2 d3 false _ ?side1 ?side2 ?side3 ?side4 A8.out).mono ?_);(case side1=>exact Kd.C_q (Kd.C_below d8.out HB.out));(case side2=>exact d9.out);(case side3=>exact Kd.C_q (Kd.C_below e0.out HB.out));(case side4=>exact e1.out);rintro e g9 ⟨rfl,hb⟩;refine ap2 (blk_below (blkP a7) hb) (below_step (belowP HB) hb) ?_;clear a7 HB;intro a7 HB)|((with_reducible refine gate_dst (N:=11) rfl ?_);refine box_event ?hg (N:=11) ?hd (cs:=#[.int .i64 0,.int .i64 0]) (t:=103) ?hr ?_;(case hd=>rfl);(case hg=>rfl);(case hr=>first|(go_simp;done)|(go_simp;rfl));intro a9 hg d5 hbox hb;refine ap7 (blk_below (blkP a7) hb) (below_step (belowP HB) hb) (hbox) ((by rw [hg];exact (below_size (belowP HB)):w.heap.size≤a9)) ((by rw [hg];exact (below_size (belowP HB)):w.heap.size≤a9)) ((by rw [hg];exact Nat.ne_of_lt (blk_lt (blkP a7)):a8≠a9)) ((by rw [hg];exact Nat.ne_of_gt (blk_lt (blkP a7)):a9≠a8)) ?_;clear a7 HB;intro a7 HB b2 GW258 d7 c0 c1;clear hb hbox hg;have h0:=c1.out;have h1:=c0.out;have h2:d5.cell? ⟨a9,0,none⟩=some (.int .i64 0):=(blk_cell b2.out 0).trans rfl;have h3:d5.cell? ⟨a9,1,none⟩=some (.int .i64 0):=(blk_cell b2.out 1).trans rfl;have h4:=blk_frozen b2.out 0;have h5:=blk_frozen b2.out 1)))
   go_ret
   exact ⟨rE,by repeat (first|(with_reducible first|exact HB.out|apply below_alloc|apply pw_below_drewN|apply below_drew1|refine below_set ?_ b8.out|refine below_set ?_ d7.out)|exact HB.out)⟩
def leaders_choose.l0:Nat→Int→Int→Int→Int→Int→Int→Int→List Int→List (S30)→Option (Int)
 | 0,_,_,_,_,_,_,_,_,_=>none
 | k + 1,x1,x2,x3,x9,d3,b4,c1,d0,d1=>if b4 < 10 then ((leaders_neighbour.f k c1 d0 d1 x1 x2 x3 b4).bind fun d2=>(if d2=true then ((leaders_Hash.f 2 x2 x3 b4).bind fun b1=>(if b1≥d3 then (leaders_choose.l0 k x1 x2 x3 b4 b1 (wrap64 (b4 + 1)) c1 d0 d1) else (leaders_choose.l0 k x1 x2 x3 x9 d3 (wrap64 (b4 + 1)) c1 d0 d1))) else (leaders_choose.l0 k x1 x2 x3 x9 d3 (wrap64 (b4 + 1)) c1 d0 d1))) else (some x9)
def leaders_choose.f (k:Nat) (b0:Int) (a7:List Int) (a8:List (S30)) (a1:Int) (a2:Int) (a3:Int):Option (Int):=leaders_choose.l0 k a1 a2 a3 a1 0 0 b0 a7 a8
theorem leaders_choose.mono_l:∀ k,(∀ y0 y1 y2 y3 y4 y5 y6 y7 y8,LeO (leaders_choose.l0 k y0 y1 y2 y3 y4 y5 y6 y7 y8) (leaders_choose.l0 (k + 1) y0 y1 y2 y3 y4 y5 y6 y7 y8))
 | 0=>fun _ _ _ _ _ _ _ _ _ r h=>by simp [leaders_choose.l0] at h
 | k + 1=>by
  have d4:=leaders_choose.mono_l k
  ·intro y0 y1 y2 y3 y4 y5 y6 y7 y8
   unfold leaders_choose.l0
   repeat' first
   | (with_reducible exact d4 _ _ _ _ _ _ _ _ _)
   | (with_reducible apply leaders_neighbour.mono)
   | (with_reducible exact LeO.refl _)
   | (with_reducible exact LeO.none _)
   | (with_reducible refine LeO.ite ?_ ?_)
   | (with_reducible refine LeO.bind ?_ (fun _=>?_))
theorem leaders_choose.mono:∀ a0 a1 a2 a3 a4 a5 k,LeO (leaders_choose.f k a0 a1 a2 a3 a4 a5) (leaders_choose.f (k + 1) a0 a1 a2 a3 a4 a5):=by
 intro a0 a1 a2 a3 a4 a5 k
 have d4:=leaders_choose.mono_l k
 unfold leaders_choose.f
 repeat' first
   | (with_reducible exact d4 _ _ _ _ _ _ _ _ _)
   | (with_reducible apply leaders_neighbour.mono)
   | (with_reducible exact LeO.refl _)
   | (with_reducible exact LeO.none _)
   | (with_reducible refine LeO.ite ?_ ?_)
   | (with_reducible refine LeO.bind ?_ (fun _=>?_))
set_option maxHeartbeats 8000000 in
set_option maxRecDepth 100000 in
theorem leaders_choose.calls (k:Nat) (b0:Int) (b5:Option Addr) (b6:Nat) (a7:List Int) (b7:Option Addr) (b8:Nat) (a8:List (S30)) (a1:Int) (a2:Int) (a3:Int) (r:Int) (w:World) (e0:Kd.C (Kd.int .i64) w b5 a7.length a7) (e1:a7.length≤b6) (e2:Kd.C k30 w b7 a8.length a8) (e3:a8.length≤b8) (h:leaders_choose.f k b0 a7 a8 a1 a2 a3=some r) :
  Calls Try.prog 50 #[.agg #[.int .i64 b0,.slice b5 a7.length b6,.slice b7 a8.length b8],.int .i64 a1,.int .i64 a2,.int .i64 a3] w fun e w'=>e = .returned (.int .i64 r)∧Below w.heap.size w w':=by
 have hu30:=Try.underlying30
 have d5:=Aside0.mk e0
 have d6:=Aside0.mk e1
 clear e0 e1
 have d7:=Aside0.mk e2
 have d8:=Aside0.mk e3
 clear e2 e3
 have HB:=Aside0.mk (Below.refl w.heap.size w)
 have H:(leaders_choose.l0 k a1 a2 a3 a1 0 0 b0 a7 a8)=some r:=h
 clear h
 have H':=Aside0.mk H
 clear H
 go_enter Try.func50,Try.ntmps50
 go_wp2_with (first|((with_reducible refine gate_dst (N:=4) rfl ?_);refine box_event ?hg (N:=4) ?hd (cs:=#[.int .i64 b0,.slice b5 a7.length b6,.slice b7 a8.length b8]) (t:=30) ?hr ?_;(case hd=>rfl);(case hg=>rfl);(case hr=>first|(go_simp;done)|(go_simp;rfl));intro d9 hg w5 hbox hb;refine ap4 (below_step (belowP HB) hb) (hbox) ((by rw [hg];exact (below_size (belowP HB)):w.heap.size≤d9)) ((by rw [hg];exact (below_size (belowP HB)):w.heap.size≤d9)) ?_;clear HB;intro HB a9 GW260 c0;clear hb hbox hg))
 go_loopg [9,10,14] k (fun kq v9 e6 e7 w'=>∃ (b3:Int) (b2:Int) (a6:Int),v9 = .int .i64 b3∧e6 = .int .u32 b2∧e7 = .int .i64 a6∧Aside0 (leaders_choose.l0 kq a1 a2 a3 b3 b2 a6 b0 a7 a8=some r)∧Aside0 (kq≤k)∧Aside0 (w'.heap[d9]? = some (.cells #[.int .i64 b0,(.slice b5 a7.length b6),(.slice b7 a8.length b8)] 30 (0,0)))∧Aside0 (Below w.heap.size w w'))
 case atStart=>exact ⟨(a1),(0),(0),tz3,tz3,tz3,H',⟨Nat.le_refl _⟩,⟨by refine blkQ ?_;exact a9.out⟩,⟨by repeat (first|(with_reducible first|exact HB.out|apply below_alloc|apply pw_below_drewN|apply below_drew1|refine below_set ?_ c0.out)|exact HB.out)⟩⟩
 case round=>
  clear H'
  try clear a9
  try clear HB
  obtain ⟨b3,b2,a6,rfl,rfl,rfl,HA,b9,a9,HB⟩:=hrel
  cases gk with
  | zero=>exact absurd HA.out (by simp [leaders_choose.l0])
  | succ k1=>
   have H:=HA.out
   clear HA
   simp only [leaders_choose.l0] at H
   by_cases c6:a6 < 10
   ·rw [if_pos c6] at H
    have e8:decide (a6 < 10)=true:=decide_eq_true c6
    clear c6
    replace H:=Option.bind_eq_some_iff.mp H
    obtain ⟨d2,e4,H⟩:=H
    replace H:(if d2=true then ((leaders_Hash.f 2 a2 a3 a6).bind fun b1=>(if b1≥b2 then (leaders_choose.l0 k1 a1 a2 a3 a6 b1 (wrap64 (a6 + 1)) b0 a7 a8) else (leaders_choose.l0 k1 a1 a2 a3 b3 b2 (wrap64 (a6 + 1)) b0 a7 a8))) else (leaders_choose.l0 k1 a1 a2 a3 b3 b2 (wrap64 (a6 + 1)) b0 a7 a8))=some r:=H
    have A7:=Aside0.mk e4
    clear e4
    by_cases c8:d2=true
    ·subst c8
     rw [if_pos rfl] at H
     replace H:=Option.bind_eq_some_iff.mp H
     obtain ⟨b1,e5,H⟩:=H
     replace H:(if b1≥b2 then (leaders_choose.l0 k1 a1 a2 a3 a6 b1 (wrap64 (a6 + 1)) b0 a7 a8) else (leaders_choose.l0 k1 a1 a2 a3 b3 b2 (wrap64 (a6 + 1)) b0 a7 a8))=some r:=H
     have A9:=Aside0.mk e5
     clear e5
     by_cases c10:b1≥b2
     ·rw [if_pos c10] at H
      have e9:decide (b2≤b1)=true:=decide_eq_true c10
      clear c10
      have H':=Aside0.mk H
      clear H
      obtain ⟨f0,f1,f2⟩:=cells3 a9.out
      obtain ⟨f3,f4,f5⟩:=froz3 a9.out
      go_wp2_with (first|((with_reducible refine gate_callee (f:=62) rfl ?_);refine goesL_ (some 22) rfl rfl Try.func62 (by kernel_rfl) rfl #[.agg #[.int .i64 b0,.slice b5 a7.length b6,.slice b7 a8.length b8],.int .i64 a1,.int .i64 a2,.int .i64 a3,.int .i64 a6] rfl tz0 ?_;(with_reducible refine (leaders_neighbour.calls k1 b0 _ _ a7 _ _ a8 a1 a2 a3 a6 true _ ?side1 ?side2 ?side3 ?side4 A7.out).mono ?_);(case side1=>exact Kd.C_q (Kd.C_below d5.out HB.out));(case side2=>exact d6.out);(case side3=>exact Kd.C_q (Kd.C_below d7.out HB.out));(case side4=>exact d8.out);rintro e f6 ⟨rfl,hb⟩;refine ⟨_,rfl,?_⟩;refine ap2 (blk_below (blkP a9) hb) (below_step (belowP HB) hb) ?_;clear a9 HB;intro a9 HB)|((with_reducible refine gate_callee (f:=63) rfl ?_);refine goesL_ (some 27) rfl rfl Try.func63 (by kernel_rfl) rfl #[.int .i64 2,.int .i64 a2,.int .i64 a3,.int .i64 a6] rfl tz0 ?_;(with_reducible refine (leaders_Hash.calls 2 a2 a3 a6 b1 _ A9.out).mono ?_);rintro e w' ⟨rfl,⟨nd,rfl⟩⟩;refine ⟨_,rfl,?_⟩))
      go_roundg k1
      case measure=>have:=b9.out;omega
      case rel=>exact ⟨(a6),(b1),(wrap64 (a6 + 1)),tz3,tz3,tz3,H',⟨by have:=b9.out;omega⟩,⟨by refine blkQ ?_;exact a9.out⟩,⟨by repeat (first|(with_reducible first|exact HB.out|apply below_alloc|apply pw_below_drewN|apply below_drew1|refine below_set ?_ c0.out)|exact HB.out)⟩⟩
     ·rw [if_neg c10] at H
      have e9:decide (b2≤b1)=false:=decide_eq_false c10
      clear c10
      have H':=Aside0.mk H
      clear H
      obtain ⟨f7,f8,f9⟩:=cells3 a9.out
      obtain ⟨g0,g1,g2⟩:=froz3 a9.out
      go_wp2_with (first|((with_reducible refine gate_callee (f:=62) rfl ?_);refine goesL_ (some 22) rfl rfl Try.func62 (by kernel_rfl) rfl #[.agg #[.int .i64 b0,.slice b5 a7.length b6,.slice b7 a8.length b8],.int .i64 a1,.int .i64 a2,.int .i64 a3,.int .i64 a6] rfl tz0 ?_;(with_reducible refine (leaders_neighbour.calls k1 b0 _ _ a7 _ _ a8 a1 a2 a3 a6 true _ ?side1 ?side2 ?side3 ?side4 A7.out).mono ?_);(case side1=>exact Kd.C_q (Kd.C_below d5.out HB.out));(case side2=>exact d6.out);(case side3=>exact Kd.C_q (Kd.C_below d7.out HB.out));(case side4=>exact d8.out);rintro e g3 ⟨rfl,hb⟩;refine ⟨_,rfl,?_⟩;refine ap2 (blk_below (blkP a9) hb) (below_step (belowP HB) hb) ?_;clear a9 HB;intro a9 HB)|((with_reducible refine gate_callee (f:=63) rfl ?_);refine goesL_ (some 27) rfl rfl Try.func63 (by kernel_rfl) rfl #[.int .i64 2,.int .i64 a2,.int .i64 a3,.int .i64 a6] rfl tz0 ?_;(with_reducible refine (leaders_Hash.calls 2 a2 a3 a6 b1 _ A9.out).mono ?_);rintro e w' ⟨rfl,⟨nd,rfl⟩⟩;refine ⟨_,rfl,?_⟩))
      go_roundg k1
      case measure=>have:=b9.out;omega
      case rel=>exact ⟨(b3),(b2),(wrap64 (a6 + 1)),tz3,tz3,tz3,H',⟨by have:=b9.out;omega⟩,⟨by refine blkQ ?_;exact a9.out⟩,⟨by repeat (first|(with_reducible first|exact HB.out|apply below_alloc|apply pw_below_drewN|apply below_drew1|refine below_set ?_ c0.out)|exact HB.out)⟩⟩
    ·replace c8:=Bool.eq_false_iff.mpr c8
     subst c8
     rw [if_neg (show ¬ (false=true) by decide)] at H
     have H':=Aside0.mk H
     clear H
     obtain ⟨g4,g5,g6⟩:=cells3 a9.out
     obtain ⟨g7,g8,g9⟩:=froz3 a9.out
     go_wp2_with (first|((with_reducible refine gate_callee (f:=62) rfl ?_);refine goesL_ (some 22) rfl rfl Try.func62 (by kernel_rfl) rfl #[.agg #[.int .i64 b0,.slice b5 a7.length b6,.slice b7 a8.length b8],.int .i64 a1,.int .i64 a2,.int .i64 a3,.int .i64 a6] rfl tz0 ?_;(with_reducible refine (leaders_neighbour.calls k1 b0 _ _ a7 _ _ a8 a1 a2 a3 a6 false _ ?side1 ?side2 ?side3 ?side4 A7.out).mono ?_);(case side1=>exact Kd.C_q (Kd.C_below d5.out HB.out));(case side2=>exact d6.out);(case side3=>exact Kd.C_q (Kd.C_below d7.out HB.out));(case side4=>exact d8.out);rintro e h0 ⟨rfl,hb⟩;refine ⟨_,rfl,?_⟩;refine ap2 (blk_below (blkP a9) hb) (below_step (belowP HB) hb) ?_;clear a9 HB;intro a9 HB))
     go_roundg k1
     case measure=>have:=b9.out;omega
     case rel=>exact ⟨(b3),(b2),(wrap64 (a6 + 1)),tz3,tz3,tz3,H',⟨by have:=b9.out;omega⟩,⟨by refine blkQ ?_;exact a9.out⟩,⟨by repeat (first|(with_reducible first|exact HB.out|apply below_alloc|apply pw_below_drewN|apply below_drew1|refine below_set ?_ c0.out)|exact HB.out)⟩⟩
   ·rw [if_neg c6] at H
    have e8:decide (a6 < 10)=false:=decide_eq_false c6
    clear c6
    obtain rfl:=Option.some.inj H
    go_wp2
    go_ret
    exact ⟨rE,by repeat (first|(with_reducible first|exact HB.out|apply below_alloc|apply pw_below_drewN|apply below_drew1|refine below_set ?_ c0.out)|exact HB.out)⟩
def leaders_Leaders.l0:Nat→Int→Int→Int→Int→Int→Int→List Int→List (S30)→Option (Int × Int)
 | 0,_,_,_,_,_,_,_,_=>none
 | k + 1,x1,x2,d6,d7,c1,d8,d9,e0=>if c1 < d7 then ((leaders_choose.f k d8 d9 e0 x1 x2 (wrap64 (c1 + 1))).bind fun b0=>(if 0≤b0 then (leaders_Leaders.l0 k x1 x2 (Go.bits .or .i64 d6 (shl .i64 1 b0)) d7 (wrap64 (c1 + 1)) d8 d9 e0) else (none))) else (some (d6,0))
def leaders_Leaders.f (k:Nat) (a9:Int) (a7:List Int) (a8:List (S30)) (a1:Int) (a2:Int) (a3:Int):Option (Int × Int):=(leaders_asked.f k a9 a7 a8 a1 a2 a3).bind fun b1=>(if b1=0 then (leaders_Leaders.l0 k a1 a2 0 a3 0 a9 a7 a8) else (some (0,b1)))
theorem leaders_Leaders.mono_l:∀ k,(∀ y0 y1 y2 y3 y4 y5 y6 y7,LeO (leaders_Leaders.l0 k y0 y1 y2 y3 y4 y5 y6 y7) (leaders_Leaders.l0 (k + 1) y0 y1 y2 y3 y4 y5 y6 y7))
 | 0=>fun _ _ _ _ _ _ _ _ r h=>by simp [leaders_Leaders.l0] at h
 | k + 1=>by
  have d0:=leaders_Leaders.mono_l k
  ·intro y0 y1 y2 y3 y4 y5 y6 y7
   unfold leaders_Leaders.l0
   repeat' first
   | (with_reducible exact d0 _ _ _ _ _ _ _ _)
   | (with_reducible apply leaders_asked.mono)
   | (with_reducible apply leaders_choose.mono)
   | (with_reducible exact LeO.refl _)
   | (with_reducible exact LeO.none _)
   | (with_reducible refine LeO.ite ?_ ?_)
   | (with_reducible refine LeO.bind ?_ (fun _=>?_))
theorem leaders_Leaders.mono:∀ a0 a1 a2 a3 a4 a5 k,LeO (leaders_Leaders.f k a0 a1 a2 a3 a4 a5) (leaders_Leaders.f (k + 1) a0 a1 a2 a3 a4 a5):=by
 intro a0 a1 a2 a3 a4 a5 k
 have d0:=leaders_Leaders.mono_l k
 unfold leaders_Leaders.f
 repeat' first
   | (with_reducible exact d0 _ _ _ _ _ _ _ _)
   | (with_reducible apply leaders_asked.mono)
   | (with_reducible apply leaders_choose.mono)
   | (with_reducible exact LeO.refl _)
   | (with_reducible exact LeO.none _)
   | (with_reducible refine LeO.ite ?_ ?_)
   | (with_reducible refine LeO.bind ?_ (fun _=>?_))
set_option maxHeartbeats 8000000 in
set_option maxRecDepth 100000 in
theorem leaders_Leaders.calls (k:Nat) (a9:Int) (b4:Option Addr) (b5:Nat) (a7:List Int) (b6:Option Addr) (b7:Nat) (a8:List (S30)) (a1:Int) (a2:Int) (a3:Int) (r1:Int) (r2:Int) (w:World) (e1:Kd.C (Kd.int .i64) w b4 a7.length a7) (e2:a7.length≤b5) (e3:Kd.C k30 w b6 a8.length a8) (e4:a8.length≤b7) (h:leaders_Leaders.f k a9 a7 a8 a1 a2 a3=some (r1,r2)) :
  Calls Try.prog 38 #[.agg #[.int .i64 a9,.slice b4 a7.length b5,.slice b6 a8.length b7],.int .i64 a1,.int .i64 a2,.int .i64 a3] w fun e w'=>e = .returned (.tuple #[.int .i64 r1,.int .i64 r2])∧Below w.heap.size w w':=by
 have hu30:=Try.underlying30
 have d1:=Aside0.mk e1
 have d2:=Aside0.mk e2
 clear e1 e2
 have d3:=Aside0.mk e3
 have d4:=Aside0.mk e4
 clear e3 e4
 have HB:=Aside0.mk (Below.refl w.heap.size w)
 have H:((leaders_asked.f k a9 a7 a8 a1 a2 a3).bind fun b1=>(if b1=0 then (leaders_Leaders.l0 k a1 a2 0 a3 0 a9 a7 a8) else (some (0,b1))))=some (r1,r2):=h
 clear h
 replace H:=Option.bind_eq_some_iff.mp H
 obtain ⟨b1,e5,H⟩:=H
 replace H:(if b1=0 then (leaders_Leaders.l0 k a1 a2 0 a3 0 a9 a7 a8) else (some (0,b1)))=some (r1,r2):=H
 have A5:=Aside0.mk e5
 clear e5
 by_cases c6:b1=0
 ·rw [if_pos c6] at H
  have e6:(b1 == 0)=true:=beq_iff_eq.mpr c6
  have e7:(b1 != 0)=false:=bne_eq_false_iff_eq.mpr c6
  clear c6
  have H':=Aside0.mk H
  clear H
  go_enter Try.func38,Try.ntmps38
  go_wp2_with (first|((with_reducible refine gate_dst (N:=4) rfl ?_);refine box_event ?hg (N:=4) ?hd (cs:=#[.int .i64 a9,.slice b4 a7.length b5,.slice b6 a8.length b7]) (t:=30) ?hr ?_;(case hd=>rfl);(case hg=>rfl);(case hr=>first|(go_simp;done)|(go_simp;rfl));intro b2 hg w7 hbox hb;refine ap4 (below_step (belowP HB) hb) (hbox) ((by rw [hg];exact (below_size (belowP HB)):w.heap.size≤b2)) ((by rw [hg];exact (below_size (belowP HB)):w.heap.size≤b2)) ?_;clear HB;intro HB a6 GW263 b9;clear hb hbox hg;have f1:w7.cell? ⟨b2,0,none⟩=some (.int .i64 a9):=(blk_cell a6.out 0).trans rfl;have f2:w7.cell? ⟨b2,1,none⟩=some (.slice b4 a7.length b5):=(blk_cell a6.out 1).trans rfl;have f3:w7.cell? ⟨b2,2,none⟩=some (.slice b6 a8.length b7):=(blk_cell a6.out 2).trans rfl;have f4:=blk_frozen a6.out 0;have f5:=blk_frozen a6.out 1;have f6:=blk_frozen a6.out 2)|((with_reducible refine gate_callee (f:=49) rfl ?_);refine goesL_ (some 17) rfl rfl Try.func49 (by kernel_rfl) rfl #[.agg #[.int .i64 a9,.slice b4 a7.length b5,.slice b6 a8.length b7],.int .i64 a1,.int .i64 a2,.int .i64 a3] rfl tz0 ?_;(with_reducible refine (leaders_asked.calls k a9 _ _ a7 _ _ a8 a1 a2 a3 b1 _ ?side1 ?side2 ?side3 ?side4 A5.out).mono ?_);(case side1=>exact Kd.C_q (Kd.C_below d1.out HB.out));(case side2=>exact d2.out);(case side3=>exact Kd.C_q (Kd.C_below d3.out HB.out));(case side4=>exact d4.out);rintro e w9 ⟨rfl,hb⟩;refine ⟨_,rfl,?_⟩;refine ap2 (blk_below (blkP a6) hb) (below_step (belowP HB) hb) ?_;clear a6 HB;intro a6 HB))
  go_loopg [11,22] k (fun kq f7 f8 w'=>∃ (b8:Int) (b3:Int),f7 = .int .i64 b8∧f8 = .int .i64 b3∧Aside0 (leaders_Leaders.l0 kq a1 a2 b8 a3 b3 a9 a7 a8=some (r1,r2))∧Aside0 (kq≤k)∧Aside0 (w'.heap[b2]? = some (.cells #[.int .i64 a9,(.slice b4 a7.length b5),(.slice b6 a8.length b7)] 30 (0,0)))∧Aside0 (Below w.heap.size w w'))
  case atStart=>exact ⟨(0),(0),tz3,tz3,H',⟨Nat.le_refl _⟩,⟨by refine blkQ ?_;exact a6.out⟩,⟨by repeat (first|(with_reducible first|exact HB.out|apply below_alloc|apply pw_below_drewN|apply below_drew1|refine below_set ?_ b9.out)|exact HB.out)⟩⟩
  case round=>
   clear H'
   try clear c6
   try clear e6
   try clear e7
   try clear f1
   try clear f2
   try clear f3
   try clear f4
   try clear f5
   try clear f6
   try clear a6
   try clear HB
   obtain ⟨b8,b3,rfl,rfl,HA,e8,a6,HB⟩:=hrel
   cases gk with
   | zero=>exact absurd HA.out (by simp [leaders_Leaders.l0])
   | succ k1=>
    have H:=HA.out
    clear HA
    simp only [leaders_Leaders.l0] at H
    by_cases c10:b3 < a3
    ·rw [if_pos c10] at H
     have f9:decide (b3 < a3)=true:=decide_eq_true c10
     clear c10
     replace H:=Option.bind_eq_some_iff.mp H
     obtain ⟨b0,e9,H⟩:=H
     replace H:(if 0≤b0 then (leaders_Leaders.l0 k1 a1 a2 (Go.bits .or .i64 b8 (shl .i64 1 b0)) a3 (wrap64 (b3 + 1)) a9 a7 a8) else (none))=some (r1,r2):=H
     have f0:=Aside0.mk e9
     clear e9
     by_cases c0:0≤b0
     ·rw [if_pos c0] at H
      have g0:=eq_true c0
      have g1:decide (0≤b0)=true:=decide_eq_true c0
      clear c0
      obtain ⟨ji13,hji13⟩:∃ j_:Int,(shl .i64 1 b0)=j_:=⟨_,rfl⟩
      replace H:(leaders_Leaders.l0 k1 a1 a2 (Go.bits .or .i64 b8 (ji13)) a3 (wrap64 (b3 + 1)) a9 a7 a8)=some (r1,r2):=by first|(rw [hji13] at H;exact H)|(simp only [hji13] at H ⊢;exact H)
      (try rw [hji13] at f0)
      have hji13_:(IntKind.i64.wrap (1 * 2 ^ min b0.toNat 64))=ji13:=hji13
      have hji13z:b0≤64→(IntKind.i64.wrap (1 * 2 ^ b0.toNat))=ji13:=shl_small hji13
      have hji13u:(IntKind.i64.wrap (2 ^ min b0.toNat 64))=ji13:=by have h_:=hji13_;rw [Int.one_mul] at h_;exact h_
      have hji13v:b0≤64→(IntKind.i64.wrap (2 ^ b0.toNat))=ji13:=fun hle_=>by have h_:=hji13z hle_;rw [Int.one_mul] at h_;exact h_
      have hji13y:(wrap64 (1 * 2 ^ min b0.toNat 64))=ji13:=(i64_w _).symm.trans hji13_
      have hji13x:b0≤64→(wrap64 (1 * 2 ^ b0.toNat))=ji13:=fun h_=>(i64_w _).symm.trans (hji13z h_)
      have H':=Aside0.mk H
      clear H
      obtain ⟨g2,g3,g4⟩:=cells3 a6.out
      obtain ⟨g5,g6,g7⟩:=froz3 a6.out
      go_wp2_with (first|((with_reducible refine gate_callee (f:=50) rfl ?_);refine goesL_ (some 31) rfl rfl Try.func50 (by kernel_rfl) rfl #[.agg #[.int .i64 a9,.slice b4 a7.length b5,.slice b6 a8.length b7],.int .i64 a1,.int .i64 a2,.int .i64 (wrap64 (b3 + 1))] rfl tz0 ?_;(with_reducible refine (leaders_choose.calls k1 a9 _ _ a7 _ _ a8 a1 a2 (wrap64 (b3 + 1)) b0 _ ?side1 ?side2 ?side3 ?side4 f0.out).mono ?_);(case side1=>exact Kd.C_q (Kd.C_below d1.out HB.out));(case side2=>exact d2.out);(case side3=>exact Kd.C_q (Kd.C_below d3.out HB.out));(case side4=>exact d4.out);rintro e g8 ⟨rfl,hb⟩;refine ⟨_,rfl,?_⟩;refine ap2 (blk_below (blkP a6) hb) (below_step (belowP HB) hb) ?_;clear a6 HB;intro a6 HB))
      go_roundg k1
      case measure=>have:=e8.out;omega
      case rel=>exact ⟨(Go.bits .or .i64 b8 (ji13)),(wrap64 (b3 + 1)),(by first|rfl|(simp;done)|(simp only [← hji13] <;> (first|rfl|simp))|(simp [*];done)),tz3,H',⟨by have:=e8.out;omega⟩,⟨by refine blkQ ?_;exact a6.out⟩,⟨by repeat (first|(with_reducible first|exact HB.out|apply below_alloc|apply pw_below_drewN|apply below_drew1|refine below_set ?_ b9.out)|exact HB.out)⟩⟩
     ·rw [if_neg c0] at H
      exact absurd H (by simp)
    ·rw [if_neg c10] at H
     have f9:decide (b3 < a3)=false:=decide_eq_false c10
     clear c10
     simp only [Option.some.injEq,Prod.mk.injEq] at H
     obtain ⟨rfl,rfl⟩:=H
     go_wp2
     go_ret2
     exact ⟨rE,by repeat (first|(with_reducible first|exact HB.out|apply below_alloc|apply pw_below_drewN|apply below_drew1|refine below_set ?_ b9.out)|exact HB.out)⟩
 ·rw [if_neg c6] at H
  have e6:(b1 == 0)=false:=beq_eq_false_iff_ne.mpr c6
  have e7:(b1 != 0)=true:=bne_iff_ne.mpr c6
  simp only [Option.some.injEq,Prod.mk.injEq] at H
  obtain ⟨rfl,rfl⟩:=H
  go_enter Try.func38,Try.ntmps38
  go_wp2_with (first|((with_reducible refine gate_dst (N:=4) rfl ?_);refine box_event ?hg (N:=4) ?hd (cs:=#[.int .i64 a9,.slice b4 a7.length b5,.slice b6 a8.length b7]) (t:=30) ?hr ?_;(case hd=>rfl);(case hg=>rfl);(case hr=>first|(go_simp;done)|(go_simp;rfl));intro b2 hg d5 hbox hb;refine ap4 (below_step (belowP HB) hb) (hbox) ((by rw [hg];exact (below_size (belowP HB)):w.heap.size≤b2)) ((by rw [hg];exact (below_size (belowP HB)):w.heap.size≤b2)) ?_;clear HB;intro HB a6 GW263 b9;clear hb hbox hg;have g9:d5.cell? ⟨b2,0,none⟩=some (.int .i64 a9):=(blk_cell a6.out 0).trans rfl;have h0:d5.cell? ⟨b2,1,none⟩=some (.slice b4 a7.length b5):=(blk_cell a6.out 1).trans rfl;have h1:d5.cell? ⟨b2,2,none⟩=some (.slice b6 a8.length b7):=(blk_cell a6.out 2).trans rfl;have h2:=blk_frozen a6.out 0;have h3:=blk_frozen a6.out 1;have h4:=blk_frozen a6.out 2)|((with_reducible refine gate_callee (f:=49) rfl ?_);refine goesL_ (some 17) rfl rfl Try.func49 (by kernel_rfl) rfl #[.agg #[.int .i64 a9,.slice b4 a7.length b5,.slice b6 a8.length b7],.int .i64 a1,.int .i64 a2,.int .i64 a3] rfl tz0 ?_;(with_reducible refine (leaders_asked.calls k a9 _ _ a7 _ _ a8 a1 a2 a3 b1 _ ?side1 ?side2 ?side3 ?side4 A5.out).mono ?_);(case side1=>exact Kd.C_q (Kd.C_below d1.out HB.out));(case side2=>exact d2.out);(case side3=>exact Kd.C_q (Kd.C_below d3.out HB.out));(case side4=>exact d4.out);rintro e h5 ⟨rfl,hb⟩;refine ⟨_,rfl,?_⟩;refine ap2 (blk_below (blkP a6) hb) (below_step (belowP HB) hb) ?_;clear a6 HB;intro a6 HB))
  go_ret2
  exact ⟨rE,by repeat (first|(with_reducible first|exact HB.out|apply below_alloc|apply pw_below_drewN|apply below_drew1|refine below_set ?_ b9.out)|exact HB.out)⟩
end Go.Proofs.Ytnkpakakgfkpbaa.P
end
