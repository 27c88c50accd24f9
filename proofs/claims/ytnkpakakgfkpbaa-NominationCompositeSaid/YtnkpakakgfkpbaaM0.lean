import Derived.Below
import Derived.Deep.Draws
import Derived.Deep.AppendLies
import Derived.Maps.AppendAt
import Derived.OwnWalk
import Derived.Laws.BytesArg
import Derived.Laws.MakeOwn
import Derived.Laws.OwnMore
import Derived.Deep.OwnRows
import Derived.Tactics
import Derived.Lib.ConvBytes
import Derived.Laws.Slices
import Derived.WalkKit
import Derived.KernelRfl
import Derived.RowKit3
import Derived.Deep.LoopGhost
import Derived.Deep.QuietTactic
import Derived.BigQuiet
import Derived.WideLaws
import Derived.Deep.DeepCutAuto
import Derived.Deep.CutBlock
import Derived.Deep.RegionHeld3
import Derived.Laws.Rows
import Derived.Lib.AppendStr
import Derived.ArgAppend
import Derived.Laws.IdiomCopy
import Derived.RowKit
import Derived.OrdersHeld
import Derived.Laws.BitsLemmas
import Derived.Laws.StructEq
import Derived.Test.YtnkpakakgfkpbaaProg
import Derived.Shelf.Abstract
import Derived.WalkSpells
import Derived.Shelf.SlSortCmp.Insertion
import Derived.Laws.AppendOwn
import Derived.Ground.Names2Prog
import Derived.Shelf.Slices.CompactS
import Derived.Ground.NamesProg
import Derived.Shelf.SlGeneric
import Derived.Ground.SlsfProg
import Derived.Shelf.SlSortCmp.NoneTotal
import Derived.Shelf.Spec.SlicesInsertGrow
set_option linter.unusedVariables false
set_option linter.unusedSimpArgs false
section
namespace Go.Proofs.YtnkpakakgfkpbaaW.PrintWords
open Go.RowKit
structure Aside0 (p:Prop):Prop where mk :: (out:p)
structure Drawn0 (w w':World):Prop where mk :: (out:∃ n,w'=w.drewN n)
theorem Drawn0.refl (w:World):Drawn0 w w:=⟨⟨0,rfl⟩⟩
theorem Drawn0.step {w w':World} (h:Drawn0 w w') (n:Nat):Drawn0 w (w'.drewN n):=by
  obtain ⟨m,rfl⟩:=h
  exact ⟨⟨m + n,World.drewN_drewN ..⟩⟩
def rd (xs:List Int) (i:Int):Int:=xs.getD i.toNat 0
theorem below_alloc {w W:World} (h:Below w.heap.size w W) (o:Obj):Below w.heap.size w (W.alloc o):=h.alloc h.size o
theorem below_drew {B:Nat} {w W:World} (h:Below B w W):Below B w W.drew:=⟨h.os,h.tape,h.output,h.size,h.block⟩
theorem pw_below_drewN {B:Nat} {w W:World} (h:Below B w W) (n:Nat):Below B w (W.drewN n):=⟨h.os,h.tape,h.output,h.size,h.block⟩
theorem below_then {B:Nat} {w w1 w2:World} (h:Below B w w1) (hB:B≤w1.heap.size) (k:Below w1.heap.size w1 w2):Below B w w2:=
  h.trans ⟨k.os,k.tape,k.output,k.size,fun i hi=>k.block i (Nat.lt_of_lt_of_le hi hB)⟩
theorem pw_below_grown {B:Nat} {w w1:World} (h:Below B w w1) (row:Option Nat) (hB:B≤w1.heap.size) {w2:World} (hg:w1.grownBy w2 row) (hr:∀ k,row=some k→B≤k):Below B w w2:=h.grown hg hB hr
theorem pw_cell_below {w w1:World} (h:Below w.heap.size w w1) {a:Addr} {v:Value} (hc:w.cell? a=some v):w1.cell? a=some v:=(h.cell (World.block_lt_of_cell? w a hc)).trans hc
theorem add_plain (g j:Nat):(⟨g,0,none⟩:Addr).add j=⟨g,j,none⟩:=by unfold Addr.add;split <;> simp_all
theorem own_nil (W:World) (base:Nat) (e:TypeId) (size:Nat):W.ownsRow base e size (.slice none 0 0) 0 []:=⟨by simp,.inl ⟨rfl,rfl⟩⟩
theorem own_base {w:World} {base:Nat} {e:TypeId} {size n:Nat} {v:Value} {xs:List Value} (h:w.ownsRow base e size v n xs) (k:Nat) (hk:v.ownBlock=some k):base≤k:=by
  rcases h.2 with ⟨rfl,_⟩|⟨g,cap,cur,rfl,hb,_⟩
  · simp [Value.ownBlock] at hk
  · have:g=k:=by simpa [Value.ownBlock] using hk
    omega
theorem own_lt {w:World} {base:Nat} {e:TypeId} {size n:Nat} {v:Value} {xs:List Value} (h:w.ownsRow base e size v n xs) (k:Nat) (hk:v.ownBlock=some k):k < w.heap.size:=by
  rcases h.2 with ⟨rfl,_⟩|⟨g,cap,cur,rfl,hb,hh,_⟩
  · simp [Value.ownBlock] at hk
  · have:g=k:=by simpa [Value.ownBlock] using hk
    subst this
    exact (Array.getElem?_eq_some_iff.1 hh).1
section
variable {P:Program} {ops:Array Oper} {rest:List Oper} {o:Oper} {a:Act} {Q:Exit→Act→World→Prop}
end
section
variable {P:Program}
end
section
variable {P:Program} {ops:Array Oper} {rest:List Oper} {o:Oper} {a:Act} {Q:Exit→Act→World→Prop}
end
def LeO {α:Type} (a b:Option α):Prop:=∀ r,a=some r→b=some r
theorem LeO.refl {α:Type} (a:Option α):LeO a a:=fun _ h=>h
theorem LeO.none {α:Type} (b:Option α):LeO Option.none b:=fun _ h=>by cases h
theorem LeO.trans {α:Type} {a b c:Option α} (h:LeO a b) (k:LeO b c):LeO a c:=fun r hr=>k r (h r hr)
theorem LeO.ite {α:Type} {c:Prop} [Decidable c] {a a' b b':Option α} (h:LeO a a') (k:LeO b b'):LeO (if c then a else b) (if c then a' else b'):=by
  split
  · exact h
  · exact k
theorem LeO.bind {α β:Type} {a a':Option α} {f f':α→Option β} (h:LeO a a') (k:∀ x,LeO (f x) (f' x)):LeO (a.bind f) (a'.bind f'):=by
  intro r hr
  obtain ⟨x,hx,hf⟩:=Option.bind_eq_some_iff.1 hr
  exact Option.bind_eq_some_iff.2 ⟨x,h x hx,k x r hf⟩
def Reps {α:Type} (R:α→List Value→Prop) (size:Nat) (ps:List α) (cs:List Value):Prop:=
  cs.length=ps.length * size∧∀ j p,ps[j]? = some p→R p ((cs.drop (j * size)).take size)
theorem Reps.none {α:Type} (R:α→List Value→Prop) (size:Nat):Reps R size [] []:=⟨by simp,fun j p h=>by simp at h⟩
theorem Reps.snoc {α:Type} {R:α→List Value→Prop} {size:Nat} {ps:List α} {cs c:List Value} {p:α} (h:Reps R size ps cs) (hp:R p c) (hc:c.length=size):Reps R size (ps ++ [p]) (cs ++ c):=by
  refine ⟨by rw [List.length_append,h.1,hc,List.length_append,List.length_singleton,Nat.add_mul,Nat.one_mul],fun j q hq=>?_⟩
  rcases Nat.lt_or_ge j ps.length with hj|hj
  · rw [List.getElem?_append_left hj] at hq
    have h1:j * size + size≤cs.length:=by rw [h.1,← Nat.succ_mul];exact Nat.mul_le_mul_right _ hj
    have h2:=h.2 j q hq
    rw [List.drop_append_of_le_length (by omega),List.take_append_of_le_length (by rw [List.length_drop];omega)]
    exact h2
  · have hj':j=ps.length:=by
      have:=(List.getElem?_eq_some_iff.1 hq).1
      rw [List.length_append,List.length_singleton] at this
      omega
    subst hj'
    have hq':p=q:=by simpa using hq
    subst hq'
    rw [← h.1,List.drop_left,← hc,List.take_length]
    exact hp
theorem Reps.imp_ {α:Type} {R R':α→List Value→Prop} {size:Nat} {ps:List α} {cs:List Value} (h:Reps R size ps cs) (hR:∀ p c,R p c→R' p c):Reps R' size ps cs:=⟨h.1,fun j p hj=>hR _ _ (h.2 j p hj)⟩
def ReadsRow {α:Type} (R:α→List Value→Prop) (size:Nat) (w:World) (A:Option Addr) (n:Nat) (ps:List α):Prop:=
  ps.length=n∧n≤9223372036854775807∧(0 < n→∃ ad,A=some ad∧∀ j p,ps[j]? = some p→∃ c,c.length=size∧R p c∧∀ i u,c[i]? = some u→w.cell? (ad.add (j * size + i))=some u)
theorem ReadsRow.get_ {α:Type} {R:α→List Value→Prop} {size:Nat} {w:World} {A:Option Addr} {n:Nat} {ps:List α} (h:ReadsRow R size w A n ps) (d:α) (i:Int) (h0:0≤i) (h1:i < n) :
    ∃ ad c,A=some ad∧c.length=size∧R (ps.getD i.toNat d) c∧∀ j u,c[j]? = some u→w.cell? (ad.add (i.toNat * size + j))=some u:=by
  obtain ⟨ad,e,hc⟩:=h.2.2 (by omega)
  have hl:i.toNat < ps.length:=by have:=h.1;omega
  obtain ⟨c,hs,hr,hcell⟩:=hc i.toNat _ (List.getElem?_eq_getElem hl)
  refine ⟨ad,c,e,hs,?_,hcell⟩
  rw [List.getD_eq_getElem?_getD,List.getElem?_eq_getElem hl]
  exact hr
theorem ReadsRow.imp_ {α:Type} {R R':α→List Value→Prop} {size:Nat} {w w1:World} {A:Option Addr} {n:Nat} {ps:List α} (h:ReadsRow R size w A n ps) (hb:Below w.heap.size w w1) (hR:∀ p c,R p c→R' p c):ReadsRow R' size w1 A n ps:=
  ⟨h.1,h.2.1,fun hn=>by
    obtain ⟨ad,e,hc⟩:=h.2.2 hn
    refine ⟨ad,e,fun j p hj=>?_⟩
    obtain ⟨c,hs,hr,hcell⟩:=hc j p hj
    exact ⟨c,hs,hR _ _ hr,fun i u hu=>pw_cell_below hb (hcell i u hu)⟩⟩
theorem own_reads_row {α:Type} {R:α→List Value→Prop} {w:World} {base n size:Nat} {e:TypeId} {v:Value} {ps:List α} {cs:List Value} (h:w.ownsRow base e size v n cs) (hR:Reps R size ps cs) (hn:ps.length=n) :
    ∃ A c,v = .slice A n c∧ReadsRow R size w A n ps:=by
  rcases Nat.eq_zero_or_pos n with h0|h0
  · rcases h.2 with ⟨rfl,rfl⟩|⟨g,cap,cur,rfl,_⟩
    · exact ⟨none,0,rfl,hn,by omega,fun hp=>absurd hp (by omega)⟩
    · exact ⟨_,cap,rfl,hn,by omega,fun hp=>absurd hp (by omega)⟩
  · obtain ⟨g,cap,rfl,_,_⟩:=h.form h0
    have hm:n≤9223372036854775807:=by
      rcases h.2 with ⟨_,h1⟩|⟨g',cap',cur,he,_,_,h1,h2,_⟩
      · omega
      · simp only [maxLen] at h2
        omega
    refine ⟨_,cap,rfl,hn,hm,fun _=>⟨_,rfl,fun j p hj=>⟨(cs.drop (j * size)).take size,?_,hR.2 j p hj,fun i u hu=>?_⟩⟩⟩
    · have hjl:=(List.getElem?_eq_some_iff.1 hj).1
      have h1:j * size + size≤cs.length:=by rw [hR.1,← Nat.succ_mul];exact Nat.mul_le_mul_right _ hjl
      rw [List.length_take,List.length_drop]
      omega
    · refine h.cells (g:=g) rfl _ u ?_
      rw [List.getElem?_take] at hu
      split at hu
      · rw [List.getElem?_drop] at hu
        exact hu
      · cases hu
theorem add_field (ad:Addr) (m j:Nat) (hj:0 < j):ad.add (m + j)=⟨(ad.add m).block,(ad.add m).off + j,none⟩:=by
  unfold Addr.add
  by_cases hm:m=0
  · subst hm
    simp [Nat.ne_of_gt hj]
  · simp [hm,Nat.add_assoc]
section
variable {P:Program} {ops:Array Oper} {rest:List Oper} {o:Oper} {a:Act} {Q:Exit→Act→World→Prop}
theorem print_append_cells {w0 W:World} (base:Nat) (hgd:o.guard=none) (s x:Operand) (t e:TypeId) (z:Value) (size bytes:Nat)
    (ho:o.op = .call { callee:=.builtin .append,args:=#[s,x],argTypes:=#[t,t] })
    (ht:P.underlying t=some (.slice e)) (hinfo:(P.info? e).map (fun i=>(i.zero,i.size,i.bytes))=some (some z,size,bytes)) (hz:z.cells.size=size) (hs0:0 < size) (hb0:0 < bytes)
    (v:Value) (n:Nat) (xs ys:List Value) (hs:a.eval s=v) (hx:a.eval x = .slice (some ⟨W.heap.size,0,none⟩) 1 1) (hys:ys.length=size) (h1:∀ u ∈ ys,u.oneCell'=true)
    (HO:W.ownsRow base e size v n xs) (HB:Below base w0 W) (hbase:base≤W.heap.size) (hl:(n + 1) * bytes≤140737488355328)
    (h:∀ v1 w1,w1.ownsRow base e size v1 (n + 1) (xs ++ ys)→Below base w0 w1→W.grownBy w1 v.ownBlock→(v1.ownBlock=v.ownBlock∨∃ b,v1.ownBlock=some b∧W.heap.size≤b)→wpList P ops Q rest (a.put o.dst v1) w1) :
    wpList P ops Q (o :: rest) a (W.alloc (.cells ys.toArray e)):=by
  obtain ⟨i0,hi,hzz⟩:=Option.map_eq_some_iff.1 hinfo
  simp only [Prod.mk.injEq] at hzz
  obtain ⟨hz0,hz1,hz2⟩:=hzz
  have hlen:n + 1≤140737488355328:=Nat.le_trans (Nat.le_mul_of_pos_right _ hb0) hl
  refine wpList_append_own_at (W.alloc (.cells ys.toArray e)) hgd s x t ho base e i0 z size bytes ht hi hz0 hz1 hz2 hz hs0 v n xs hs (HO.alloc _) ⟨W.heap.size,0,none⟩ 1 1 ys hx (by rw [hys];simp)
    (by simpa using World.news_of_block (cs:=ys.toArray) (t:=e) (fr:=(0,0)) (heap_alloc_new W (.cells ys.toArray e))) h1 (by simp only [maxLen];omega) hl (by simp;omega) ?_
  intro v1 w1 hown hg _ hat
  refine h v1 w1 hown ((HB.alloc hbase _).grown hg (by simp;omega) (own_base HO)) (World.grownBy.trans (World.grownBy_alloc W _ _) hg) ?_
  rcases hat with hat|hat
  · exact .inl hat
  · exact .inr ⟨_,hat,by simp⟩
end
theorem own_ne {w:World} {base:Nat} {e t:TypeId} {size n g:Nat} {v:Value} {xs:List Value} {cs:Array Value} (h:w.ownsRow base e size v n xs) (hg:w.heap[g]? = some (.cells cs t (0,0))) (hne:e≠t):some g≠v.ownBlock:=by
  rcases h.2 with ⟨rfl,_⟩|⟨g',cap,cur,rfl,_,hh,_⟩
  · simp [Value.ownBlock]
  · intro he
    have:g=g':=by simpa [Value.ownBlock] using he
    subst this
    rw [hg] at hh
    injection hh with hh
    injection hh with _ ht
    exact hne ht.symm
theorem blk_set {w:World} {g:Nat} {t:TypeId} {cs:Array Value} (h:w.heap[g]? = some (.cells cs t (0,0))) (i:Nat) (u:Value):(w.setCell ⟨g,i,none⟩ u).heap[g]? = some (.cells (cs.setIfInBounds i u) t (0,0)):=by
  simp [World.setCell,Array.getElem?_modify,h]
theorem blk_far {w:World} {g:Nat} {t:TypeId} {cs:Array Value} (h:w.heap[g]? = some (.cells cs t (0,0))) {p:Addr} (hp:g≠p.block) (u:Value):(w.setCell p u).heap[g]? = some (.cells cs t (0,0)):=(Below.heap_setCell w p u g hp).trans h
theorem blk_lt {w:World} {g:Nat} {o:Obj} (h:w.heap[g]? = some o):g < w.heap.size:=(Array.getElem?_eq_some_iff.1 h).1
theorem blk_cell {w:World} {g:Nat} {t:TypeId} {cs:Array Value} (h:w.heap[g]? = some (.cells cs t (0,0))) (i:Nat):w.cell? ⟨g,i,none⟩=cs[i]?:=cell_of_row w g i cs t (0,0) h
theorem blk_frozen {w:World} {g:Nat} {t:TypeId} {cs:Array Value} (h:w.heap[g]? = some (.cells cs t (0,0))) (i:Nat):w.frozen? ⟨g,i,none⟩=false:=by simp [World.frozen?,h]
theorem blk_grown {w w1:World} {g:Nat} {o:Obj} {row:Option Nat} (h:w.heap[g]? = some o) (hg:w.grownBy w1 row) (hne:some g≠row):w1.heap[g]? = some o:=(hg.block g (blk_lt h) hne).trans h
def KeepBut (w w':World) (g:Nat) (row:Option Nat):Prop:=w.heap.size≤w'.heap.size∧∀ i,i < w.heap.size→i≠g→some i≠row→w'.heap[i]? = w.heap[i]?
theorem KeepBut.trans {w w1 w2:World} {g:Nat} {row row1:Option Nat} (h:KeepBut w w1 g row) (k:KeepBut w1 w2 g row1) (hr:row1=row∨∃ b,row1=some b∧w.heap.size≤b):KeepBut w w2 g row:=
  ⟨Nat.le_trans h.1 k.1,fun i hi hg hn=>by
    refine (k.2 i (Nat.lt_of_lt_of_le hi h.1) hg ?_).trans (h.2 i hi hg hn)
    rcases hr with rfl|⟨b,rfl,hb⟩
    · exact hn
    · intro e
      injection e with e
      omega⟩
section
variable {P:Program} {ops:Array Oper} {o:Oper} {a:Act} {Q:Exit→Act→World→Prop} {K:Act→World→Prop}
theorem step_append_cells {w0 W:World} (base:Nat) (hw:Region.wanted o (yielded ops a.tmps)=true) (s x:Operand) (t e:TypeId) (z:Value) (size bytes:Nat)
    (ho:o.op = .call { callee:=.builtin .append,args:=#[s,x],argTypes:=#[t,t] })
    (ht:P.underlying t=some (.slice e)) (hinfo:(P.info? e).map (fun i=>(i.zero,i.size,i.bytes))=some (some z,size,bytes)) (hz:z.cells.size=size) (hs0:0 < size) (hb0:0 < bytes)
    (v:Value) (n:Nat) (xs ys:List Value) (hs:a.eval s=v) (hx:a.eval x = .slice (some ⟨W.heap.size,0,none⟩) 1 1) (hys:ys.length=size) (h1:∀ u ∈ ys,u.oneCell'=true)
    (HO:W.ownsRow base e size v n xs) (HB:Below base w0 W) (hbase:base≤W.heap.size) (hl:(n + 1) * bytes≤140737488355328)
    (h:∀ v1 w1,w1.ownsRow base e size v1 (n + 1) (xs ++ ys)→Below base w0 w1→W.grownBy w1 v.ownBlock→(v1.ownBlock=v.ownBlock∨∃ b,v1.ownBlock=some b∧W.heap.size≤b)→K (a.put o.dst v1) w1) :
    if Region.wanted o (yielded ops a.tmps)=true then Oper.wp P o a (W.alloc (.cells ys.toArray e)) K Q else K (a.put o.dst undef) (W.alloc (.cells ys.toArray e)):=by
  obtain ⟨i0,hi,hzz⟩:=Option.map_eq_some_iff.1 hinfo
  simp only [Prod.mk.injEq] at hzz
  obtain ⟨hz0,hz1,hz2⟩:=hzz
  have hlen:n + 1≤140737488355328:=Nat.le_trans (Nat.le_mul_of_pos_right _ hb0) hl
  rw [if_pos hw]
  obtain ⟨v1,w1,hr,hown,hg,_,hat⟩:=run_append_own_at (P:=P) (W.alloc (.cells ys.toArray e)) base t o.type e i0 z size bytes ht hi hz0 hz1 hz2 hz hs0 v n xs (HO.alloc _) ⟨W.heap.size,0,none⟩ 1 1 ys (by rw [hys];simp)
    (by simpa using World.news_of_block (cs:=ys.toArray) (t:=e) (fr:=(0,0)) (heap_alloc_new W (.cells ys.toArray e))) h1 (by simp only [maxLen];omega) hl (by simp;omega)
  unfold Oper.wp execOp
  simp only [ho,resolve,invoke,builtin,Sem.run_bind,Sem.run_pure,Result.andThen_ok,List.map_toArray,List.map_cons,List.map_nil,hs,hx,hr]
  refine h v1 w1 hown ((HB.alloc hbase _).grown hg (by simp;omega) (own_base HO)) (World.grownBy.trans (World.grownBy_alloc W _ _) hg) ?_
  rcases hat with hat|hat
  · exact .inl hat
  · exact .inr ⟨_,hat,by simp⟩
end
theorem own_weaken {w:World} {base base':Nat} {e:TypeId} {size n:Nat} {v:Value} {xs:List Value} (h:w.ownsRow base e size v n xs) (hb:base'≤base):w.ownsRow base' e size v n xs:=by
  obtain ⟨h1,h2⟩:=h
  refine ⟨h1,?_⟩
  rcases h2 with h2|⟨g,cap,cur,rfl,hg,r⟩
  · exact .inl h2
  · exact .inr ⟨g,cap,cur,rfl,Nat.le_trans hb hg,r⟩
section
variable {α:Type} {enc:α→Value} {d:α}
def encs (enc:α→Value) (xs:List α):List Value:=xs.map enc
def rdOf (d:α) (xs:List α) (i:Int):α:=xs.getD i.toNat d
theorem encs_length (xs:List α):(encs enc xs).length=xs.length:=by simp [encs]
theorem encs_get (xs:List α) (j:Nat) (h:j < xs.length):(encs enc xs)[j]? = some (enc (xs.getD j d)):=by
  simp [encs,List.getElem?_eq_getElem h,List.getD_eq_getElem?_getD]
def ReadsOf (enc:α→Value) (d:α) (w:World) (A:Option Addr) (n:Nat) (xs:List α):Prop:=
  xs.length=n∧n≤9223372036854775807∧(0 < n→∃ ad,A=some ad∧∀ j,j < n→w.cell? (ad.add j)=some (enc (xs.getD j d)))
theorem ReadsOf.at_ {w:World} {A:Option Addr} {n:Nat} {xs:List α} (h:ReadsOf enc d w A n xs) (i:Int) (h0:0≤i) (h1:i < n):∃ ad,A=some ad∧w.cell? (ad.add i.toNat)=some (enc (rdOf d xs i)):=by
  obtain ⟨ad,e,hc⟩:=h.2.2 (by omega)
  exact ⟨ad,e,hc _ (by omega)⟩
end
section
variable {α:Type} {P:Program} {ops:Array Oper} {rest:List Oper} {o:Oper} {a:Act} {Q:Exit→Act→World→Prop}
end
theorem blk_alloc {w:World} {g:Nat} {o:Obj} (h:w.heap[g]? = some o) (o':Obj):(w.alloc o').heap[g]? = some o:=(Below.heap_alloc w o' g (blk_lt h)).trans h
theorem blk_drew {w:World} {g:Nat} {o:Obj} (h:w.heap[g]? = some o):w.drew.heap[g]? = some o:=h
theorem blk_drewN {w:World} {g:Nat} {o:Obj} (h:w.heap[g]? = some o) (n:Nat):(w.drewN n).heap[g]? = some o:=h
theorem blk_below {w w1:World} {g:Nat} {o:Obj} (h:w.heap[g]? = some o) (hb:Below w.heap.size w w1):w1.heap[g]? = some o:=(hb.block g (blk_lt h)).trans h
theorem blk_new (w:World) (o:Obj):(w.alloc o).heap[w.heap.size]? = some o:=heap_alloc_new w o
section
variable {P:Program}
theorem results_ct {fn:Func} {p u:Tmp} {ty:TypeId} (h:fn.results=#[.cell p ty,.tmp u]) (tmps:Array Value) (w:World) (g:Nat) (t:TypeId) (cs:Array Value) (fr:Nat × Nat) (d:TypeDesc)
    (hp:tmps.getD p undef = .pointer (some ⟨g,0,none⟩)) (hg:w.heap[g]? = some (.cells cs t fr))
    (hu:P.underlying ty=some d) (hd:(match d with|.struct _|.array _ _=>true|_=>false)=true) (hi:(P.info? ty).map (·.size)=some cs.size) :
    (results fn tmps).run P w = .ok (.tuple #[.agg cs,tmps.getD u undef]) w:=by
  have hp':tmps[p]?.getD undef = .pointer (some ⟨g,0,none⟩):=by simpa using hp
  simp [results,h,hp',asAddr,run_loadVar_row w g t ty cs fr d hg hu hd hi]
end
theorem own_le {w:World} {base n m c size:Nat} {e:TypeId} {A:Option Addr} {xs:List Value} (h:w.ownsRow base e size (.slice A m c) n xs):m≤c:=by
  rcases h.2 with ⟨he,_⟩|⟨g,cap,cur,he,_,_,hnc,_⟩
  · injection he with _ h2 h3
    omega
  · injection he with _ h2 h3
    omega
def OwnRow {α:Type} (R:α→List Value→Prop) (e:TypeId) (size:Nat) (w:World) (base:Nat) (v:Value) (ps:List α):Prop:=
  ∃ inner,w.ownsRow base e size v ps.length inner∧Reps R size ps inner
section
variable {α:Type} {R R':α→List Value→Prop} {e:TypeId} {size:Nat} {w w1:World} {base:Nat} {v:Value} {ps:List α}
theorem OwnRow.none_ (R:α→List Value→Prop) (e:TypeId) (size:Nat) (w:World) (base:Nat):OwnRow R e size w base (.slice none 0 0) []:=⟨[],own_nil _ _ _ _,Reps.none _ _⟩
theorem OwnRow.imp_ (h:OwnRow R e size w base v ps) (hR:∀ p c,R p c→R' p c):OwnRow R' e size w base v ps:=by
  obtain ⟨inner,ho,hr⟩:=h
  exact ⟨inner,ho,hr.imp_ hR⟩
theorem OwnRow.reads (h:OwnRow R e size w base v ps):∃ A c,v = .slice A ps.length c∧ps.length≤c∧ReadsRow R size w A ps.length ps:=by
  obtain ⟨inner,ho,hr⟩:=h
  obtain ⟨A,c,rfl,hrow⟩:=own_reads_row ho hr rfl
  exact ⟨A,c,rfl,own_le ho,hrow⟩
theorem OwnRow.ne_block (h:OwnRow R e size w base v ps) {g:Nat} {t:TypeId} {cells:Array Value} (hb:w.heap[g]? = some (.cells cells t (0,0))) (ht:e≠t):some g≠v.ownBlock:=by
  obtain ⟨inner,ho,hr⟩:=h
  exact own_ne ho hb ht
end
section
variable {P:Program} {ops:Array Oper} {rest:List Oper} {o:Oper} {a:Act} {Q:Exit→Act→World→Prop} {α:Type} {R:α→List Value→Prop}
end
section
variable {P:Program} {ops:Array Oper} {o:Oper} {a:Act} {Q:Exit→Act→World→Prop} {K:Act→World→Prop} {α:Type} {R:α→List Value→Prop}
end
theorem ReadsRow.inner_ {α:Type} {R:α→List Value→Prop} {size:Nat} {w:World} {ad:Addr} {n:Nat} {ps:List α} (h:ReadsRow R size w (some ad) n ps) :
    ∃ inner,Reps R size ps inner∧∀ j u,inner[j]? = some u→w.cell? (ad.add j)=some u:=by
  have key:∀ m,m≤ps.length→∃ inner,Reps R size (ps.take m) inner∧∀ j u,inner[j]? = some u→w.cell? (ad.add j)=some u:=by
    intro m
    induction m with
    | zero=>exact fun _=>⟨[],Reps.none _ _,fun j u hu=>by simp at hu⟩
    | succ m ih=>
      intro hm
      obtain ⟨inner,hr,hc⟩:=ih (by omega)
      obtain ⟨ad',he,hcell⟩:=h.2.2 (by have:=h.1;omega)
      injection he with he
      subst he
      obtain ⟨c,hcl,hp,hcc⟩:=hcell m _ (List.getElem?_eq_getElem (show m < ps.length by omega))
      refine ⟨inner ++ c,?_,fun j u hu=>?_⟩
      · rw [List.take_succ_eq_append_getElem (show m < ps.length by omega)]
        exact hr.snoc hp hcl
      · have hil:inner.length=m * size:=by rw [hr.1,List.length_take,Nat.min_eq_left (by omega)]
        rcases Nat.lt_or_ge j inner.length with hj|hj
        · rw [List.getElem?_append_left hj] at hu
          exact hc j u hu
        · rw [List.getElem?_append_right hj] at hu
          have:=hcc (j - inner.length) u hu
          rwa [hil,Nat.add_sub_cancel' (by omega)] at this
  obtain ⟨inner,hr,hc⟩:=key ps.length (Nat.le_refl _)
  rw [List.take_length] at hr
  exact ⟨inner,hr,hc⟩
section
variable {α:Type} {P:Program}
end
section
variable {P:Program} {ops:Array Oper} {rest:List Oper} {o:Oper} {a:Act} {Q:Exit→Act→World→Prop}
end
structure Kd (α:Type) where
  sz:Nat
  E:List Nat
  K:World→α→List Value→Prop
  M:World→Nat→(Nat→Prop)→α→List Value→Prop
  K_len:∀ {w x cs},K w x cs→cs.length=sz
  K_one:∀ {w x cs},K w x cs→∀ u ∈ cs,u.oneCell'=true
  K_below:∀ {w w1:World} {x cs},Below w.heap.size w w1→K w x cs→K w1 x cs
  K_of_M:∀ {w base ok x cs},M w base ok x cs→K w x cs
  M_mono:∀ {w base ok ok' x cs},(∀ k,ok k→ok' k)→M w base ok x cs→M w base ok' x cs
  M_bound:∀ {w:World} {base ok x cs},M w base ok x cs→M w base (fun k=>ok k∧base≤k∧k < w.heap.size∧∃ q,q ∈ E∧∃ cells,w.heap[k]? = some (.cells cells q (0,0))) x cs
  M_move:∀ {w w1:World} {base ok x cs},(∀ k,ok k→w1.heap[k]? = w.heap[k]?)→M w base ok x cs→M w1 base ok x cs
  M_lower:∀ {w base base' ok x cs},base'≤base→M w base ok x cs→M w base' ok x cs
theorem own_move {w w1:World} {base:Nat} {e:TypeId} {size n:Nat} {v:Value} {xs:List Value} (h:w.ownsRow base e size v n xs) (hm:∀ k,v.ownBlock=some k→w1.heap[k]? = w.heap[k]?):w1.ownsRow base e size v n xs:=by
  obtain ⟨h1,h2⟩:=h
  refine ⟨h1,?_⟩
  rcases h2 with h2|⟨g,cap,cur,rfl,hg,hh,r⟩
  · exact .inl h2
  · exact .inr ⟨g,cap,cur,rfl,hg,(hm g (by simp [Value.ownBlock])).trans hh,r⟩
theorem own_typed {w:World} {base:Nat} {e:TypeId} {size n:Nat} {v:Value} {xs:List Value} (h:w.ownsRow base e size v n xs) (k:Nat) (hk:v.ownBlock=some k):∃ cells,w.heap[k]? = some (.cells cells e (0,0)):=by
  rcases h.2 with ⟨rfl,_⟩|⟨g,cap,cur,rfl,hg,hh,r⟩
  · simp [Value.ownBlock] at hk
  · have:g=k:=by simpa [Value.ownBlock] using hk
    subst this
    exact ⟨cur,hh⟩
namespace Kd
def C {α:Type} (d:Kd α) (w:World) (A:Option Addr) (n:Nat) (xs:List α):Prop:=ReadsRow (d.K w) d.sz w A n xs
def R {α:Type} (d:Kd α) (e:Nat) (w:World) (base:Nat) (ok:Nat→Prop) (v:Value) (xs:List α):Prop:=
  (∀ k,v.ownBlock=some k→ok k)∧OwnRow (d.M w base (fun k=>ok k∧some k≠v.ownBlock)) e d.sz w base v xs
section
variable {α:Type} {d:Kd α} {e:Nat} {w w1:World} {base:Nat} {ok ok':Nat→Prop} {v:Value} {xs:List α}
theorem C_below {A:Option Addr} {n:Nat} (h:d.C w A n xs) (hb:Below w.heap.size w w1):d.C w1 A n xs:=ReadsRow.imp_ h hb (fun _ _ hp=>d.K_below hb hp)
theorem R_nil (d:Kd α) (e:Nat) (w:World) (base:Nat) (ok:Nat→Prop):d.R e w base ok (.slice none 0 0) []:=⟨fun k hk=>by simp [Value.ownBlock] at hk,OwnRow.none_ _ _ _ _ _⟩
theorem R_mono (h:d.R e w base ok v xs) (hok:∀ k,ok k→ok' k):d.R e w base ok' v xs:=⟨fun k hk=>hok k (h.1 k hk),h.2.imp_ (fun _ _ hp=>d.M_mono (fun k hk=>⟨hok k hk.1,hk.2⟩) hp)⟩
theorem R_bound (h:d.R e w base ok v xs):d.R e w base (fun k=>ok k∧base≤k∧k < w.heap.size∧∃ q,q ∈ e :: d.E∧∃ cells,w.heap[k]? = some (.cells cells q (0,0))) v xs:=by
  obtain ⟨h0,inner,ho,hr⟩:=h
  refine ⟨fun k hk=>?_,inner,ho,hr.imp_ (fun _ _ hp=>d.M_mono (fun k hk=>?_) (d.M_bound hp))⟩
  · obtain ⟨cells,hc⟩:=own_typed ho k hk
    exact ⟨h0 k hk,own_base ho k hk,own_lt ho k hk,e,List.mem_cons_self,cells,hc⟩
  · obtain ⟨⟨h1,h2⟩,h3,h4,q,hq,hc⟩:=hk
    exact ⟨⟨h1,h3,h4,q,List.mem_cons_of_mem _ hq,hc⟩,h2⟩
theorem R_move (h:d.R e w base ok v xs) (hm:∀ k,ok k→w1.heap[k]? = w.heap[k]?):d.R e w1 base ok v xs:=by
  obtain ⟨h0,inner,ho,hr⟩:=h
  exact ⟨h0,inner,own_move ho (fun k hk=>hm k (h0 k hk)),hr.imp_ (fun _ _ hp=>d.M_move (fun k hk=>hm k hk.1) hp)⟩
theorem R_lower {base':Nat} (h:d.R e w base ok v xs) (hb:base'≤base):d.R e w base' ok v xs:=by
  obtain ⟨h0,inner,ho,hr⟩:=h
  exact ⟨h0,inner,own_weaken ho hb,hr.imp_ (fun _ _ hp=>d.M_lower hb hp)⟩
theorem R_step (h:d.R e w base ok v xs) (hm:∀ k,ok k→k < w.heap.size→w1.heap[k]? = w.heap[k]?):d.R e w1 base ok v xs:=
  R_mono (R_move (R_bound h) (fun k hk=>hm k hk.1 hk.2.2.1)) (fun _ hk=>hk.1)
theorem M_step {x:α} {cs:List Value} (h:d.M w base ok x cs) (hm:∀ k,ok k→k < w.heap.size→w1.heap[k]? = w.heap[k]?):d.M w1 base ok x cs:=
  d.M_mono (fun _ hk=>hk.1) (d.M_move (fun k hk=>hm k hk.1 hk.2.2.1) (d.M_bound h))
theorem R_below (h:d.R e w base ok v xs) (hb:Below w.heap.size w w1):d.R e w1 base ok v xs:=R_step h (fun k _ hk=>hb.block k hk)
theorem M_below {x:α} {cs:List Value} (h:d.M w base ok x cs) (hb:Below w.heap.size w w1):d.M w1 base ok x cs:=M_step h (fun k _ hk=>hb.block k hk)
theorem R_far (h:d.R e w base ok v xs) {p:Addr} (hok:∀ k,ok k→k≠p.block) (u:Value):d.R e (w.setCell p u) base ok v xs:=R_step h (fun k ho _=>Below.heap_setCell w p u k (hok k ho))
theorem R_types (h:d.R e w base ok v xs) {g t:Nat} {cells:Array Value} (hb:w.heap[g]? = some (.cells cells t (0,0))) (ht:∀ q,q ∈ e :: d.E→q≠t):d.R e w base (fun k=>ok k∧k≠g) v xs:=
  R_mono (R_bound h) (fun k hk=>⟨hk.1,by
    obtain ⟨_,_,_,q,hq,cells',hc⟩:=hk
    rintro rfl
    rw [hc] at hb
    injection hb with hb
    injection hb with _ hb
    exact ht q hq hb⟩)
theorem R_reads (h:d.R e w base ok v xs):∃ A c,v = .slice A xs.length c∧xs.length≤c∧d.C w A xs.length xs:=by
  obtain ⟨A,c,he,hl,hr⟩:=OwnRow.reads h.2
  exact ⟨A,c,he,hl,hr.imp_ (Below.refl _ _) (fun _ _ hp=>d.K_of_M hp)⟩
theorem R_slice (h:d.R e w base ok v xs):∃ A c,v = .slice A xs.length c:=by
  obtain ⟨A,c,he,_⟩:=R_reads h
  exact ⟨A,c,he⟩
theorem R_own (h:d.R e w base ok v xs):∃ inner,w.ownsRow base e d.sz v xs.length inner:=by
  obtain ⟨_,inner,ho,_⟩:=h
  exact ⟨inner,ho⟩
theorem R_ne (h:d.R e w base ok v xs) {g t:Nat} {cells:Array Value} (hb:w.heap[g]? = some (.cells cells t (0,0))) (ht:e≠t):some g≠v.ownBlock:=OwnRow.ne_block h.2 hb ht
end
def scalar {α:Type} (enc:α→Value) (h1:∀ x,(enc x).oneCell'=true):Kd α where
  sz:=1
  E:=[]
  K:=fun _ x cs=>cs = [enc x]
  M:=fun _ _ _ x cs=>cs = [enc x]
  K_len:=fun h=>by rw [h];rfl
  K_one:=fun h u hu=>by
    rw [h] at hu
    rw [List.mem_singleton.1 hu]
    exact h1 _
  K_below:=fun _ h=>h
  K_of_M:=fun h=>h
  M_mono:=fun _ h=>h
  M_bound:=fun h=>h
  M_move:=fun _ h=>h
  M_lower:=fun _ h=>h
def int (k:IntKind):Kd Int:=scalar (Value.int k) (fun _=>rfl)
def bool:Kd Bool:=scalar Value.bool (fun _=>rfl)
def string:Kd ByteArray:=scalar Value.string (fun _=>rfl)
def slice {α:Type} (e:Nat) (d:Kd α):Kd (List α) where
  sz:=1
  E:=e :: d.E
  K:=fun w xs cs=>∃ A c,cs = [.slice A xs.length c]∧xs.length≤c∧d.C w A xs.length xs
  M:=fun w base ok xs cs=>∃ v,cs = [v]∧d.R e w base ok v xs
  K_len:=by
    rintro w x cs ⟨A,c,rfl,_⟩
    rfl
  K_one:=by
    rintro w x cs ⟨A,c,rfl,_⟩ u hu
    rw [List.mem_singleton.1 hu]
    rfl
  K_below:=by
    rintro w w1 x cs hb ⟨A,c,rfl,hl,hr⟩
    exact ⟨A,c,rfl,hl,C_below hr hb⟩
  K_of_M:=by
    rintro w base ok x cs ⟨v,rfl,h⟩
    obtain ⟨A,c,rfl,hl,hr⟩:=R_reads h
    exact ⟨A,c,rfl,hl,hr⟩
  M_mono:=by
    rintro w base ok ok' x cs hok ⟨v,rfl,h⟩
    exact ⟨v,rfl,R_mono h hok⟩
  M_bound:=by
    rintro w base ok x cs ⟨v,rfl,h⟩
    exact ⟨v,rfl,R_bound h⟩
  M_move:=by
    rintro w w1 base ok x cs hm ⟨v,rfl,h⟩
    exact ⟨v,rfl,R_move h hm⟩
  M_lower:=by
    rintro w base base' ok x cs hb ⟨v,rfl,h⟩
    exact ⟨v,rfl,R_lower h hb⟩
def pair {α β:Type} (a:Kd α) (b:Kd β):Kd (α × β) where
  sz:=a.sz + b.sz
  E:=a.E ++ b.E
  K:=fun w x cs=>∃ c0 c1,cs=c0 ++ c1∧a.K w x.1 c0∧b.K w x.2 c1
  M:=fun w base ok x cs=>∃ c0 c1,cs=c0 ++ c1∧a.M w base ok x.1 c0∧b.M w base ok x.2 c1
  K_len:=by
    rintro w x cs ⟨c0,c1,rfl,h0,h1⟩
    rw [List.length_append,a.K_len h0,b.K_len h1]
  K_one:=by
    rintro w x cs ⟨c0,c1,rfl,h0,h1⟩ u hu
    rcases List.mem_append.1 hu with hu|hu
    · exact a.K_one h0 u hu
    · exact b.K_one h1 u hu
  K_below:=by
    rintro w w1 x cs hb ⟨c0,c1,rfl,h0,h1⟩
    exact ⟨c0,c1,rfl,a.K_below hb h0,b.K_below hb h1⟩
  K_of_M:=by
    rintro w base ok x cs ⟨c0,c1,rfl,h0,h1⟩
    exact ⟨c0,c1,rfl,a.K_of_M h0,b.K_of_M h1⟩
  M_mono:=by
    rintro w base ok ok' x cs hok ⟨c0,c1,rfl,h0,h1⟩
    exact ⟨c0,c1,rfl,a.M_mono hok h0,b.M_mono hok h1⟩
  M_bound:=by
    rintro w base ok x cs ⟨c0,c1,rfl,h0,h1⟩
    refine ⟨c0,c1,rfl,a.M_mono ?_ (a.M_bound h0),b.M_mono ?_ (b.M_bound h1)⟩
    · rintro k ⟨h2,h3,h4,q,hq,hc⟩
      exact ⟨h2,h3,h4,q,List.mem_append_left _ hq,hc⟩
    · rintro k ⟨h2,h3,h4,q,hq,hc⟩
      exact ⟨h2,h3,h4,q,List.mem_append_right _ hq,hc⟩
  M_move:=by
    rintro w w1 base ok x cs hm ⟨c0,c1,rfl,h0,h1⟩
    exact ⟨c0,c1,rfl,a.M_move hm h0,b.M_move hm h1⟩
  M_lower:=by
    rintro w base base' ok x cs hb ⟨c0,c1,rfl,h0,h1⟩
    exact ⟨c0,c1,rfl,a.M_lower hb h0,b.M_lower hb h1⟩
def iso {α β:Type} (d:Kd α) (f:β→α):Kd β where
  sz:=d.sz
  E:=d.E
  K:=fun w x cs=>d.K w (f x) cs
  M:=fun w base ok x cs=>d.M w base ok (f x) cs
  K_len:=d.K_len
  K_one:=d.K_one
  K_below:=d.K_below
  K_of_M:=d.K_of_M
  M_mono:=d.M_mono
  M_bound:=d.M_bound
  M_move:=d.M_move
  M_lower:=d.M_lower
def bot {α:Type} (sz:Nat) (E:List Nat):Kd α where
  sz:=sz
  E:=E
  K:=fun _ _ _=>False
  M:=fun _ _ _ _ _=>False
  K_len:=fun h=>h.elim
  K_one:=fun h=>h.elim
  K_below:=fun _ h=>h
  K_of_M:=fun h=>h
  M_mono:=fun _ h=>h
  M_bound:=fun h=>h
  M_move:=fun _ h=>h
  M_lower:=fun _ h=>h
def upto {α:Type} (F:Kd α→Kd α) (sz:Nat) (E:List Nat):Nat→Kd α
  | 0=>bot sz E
  | n + 1=>F (upto F sz E n)
def fix {α:Type} (F:Kd α→Kd α) (sz:Nat) (E:List Nat) (hs:∀ n,(upto F sz E n).sz=sz) (hE:∀ n q,q ∈ (upto F sz E n).E→q ∈ E):Kd α where
  sz:=sz
  E:=E
  K:=fun w x cs=>∃ n,(upto F sz E n).K w x cs
  M:=fun w base ok x cs=>∃ n,(upto F sz E n).M w base ok x cs
  K_len:=by
    rintro w x cs ⟨n,h⟩
    rw [(upto F sz E n).K_len h,hs n]
  K_one:=by
    rintro w x cs ⟨n,h⟩
    exact (upto F sz E n).K_one h
  K_below:=by
    rintro w w1 x cs hb ⟨n,h⟩
    exact ⟨n,(upto F sz E n).K_below hb h⟩
  K_of_M:=by
    rintro w base ok x cs ⟨n,h⟩
    exact ⟨n,(upto F sz E n).K_of_M h⟩
  M_mono:=by
    rintro w base ok ok' x cs hok ⟨n,h⟩
    exact ⟨n,(upto F sz E n).M_mono hok h⟩
  M_bound:=by
    rintro w base ok x cs ⟨n,h⟩
    refine ⟨n,(upto F sz E n).M_mono ?_ ((upto F sz E n).M_bound h)⟩
    rintro k ⟨h2,h3,h4,q,hq,hc⟩
    exact ⟨h2,h3,h4,q,hE n q hq,hc⟩
  M_move:=by
    rintro w w1 base ok x cs hm ⟨n,h⟩
    exact ⟨n,(upto F sz E n).M_move hm h⟩
  M_lower:=by
    rintro w base base' ok x cs hb ⟨n,h⟩
    exact ⟨n,(upto F sz E n).M_lower hb h⟩
theorem C_get {α:Type} {d:Kd α} {w:World} {A:Option Addr} {n:Nat} {xs:List α} (h:d.C w A n xs) (z:α) (i:Int) (h0:0≤i) (h1:i < n) :
    ∃ ad c,A=some ad∧c.length=d.sz∧d.K w (xs.getD i.toNat z) c∧∀ j u,c[j]? = some u→w.cell? (ad.add (i.toNat * d.sz + j))=some u:=ReadsRow.get_ h z i h0 h1
theorem R_appended {α:Type} {d:Kd α} {e base:Nat} {ok okp:Nat→Prop} {W w1:World} {v v1:Value} {xs:List α} {p:α} {inner cs:List Value} (h0:∀ k,v.ownBlock=some k→ok k) (hr:Reps (d.M W base (fun k=>ok k∧some k≠v.ownBlock)) d.sz xs inner) (hp:d.M W base okp p cs) (hokp:∀ k,okp k→ok k∧some k≠v.ownBlock) (hfresh:∀ k,W.heap.size≤k→ok k)
    (hown:w1.ownsRow base e d.sz v1 (xs.length + 1) (inner ++ cs)) (hg:W.grownBy w1 v.ownBlock) (hat:v1.ownBlock=v.ownBlock∨∃ b,v1.ownBlock=some b∧W.heap.size≤b):d.R e w1 base ok v1 (xs ++ [p]):=by
  have hne:∀ k,some k≠v.ownBlock→k < W.heap.size→some k≠v1.ownBlock:=by
    intro k hk hlt
    rcases hat with hat|⟨b,hb,hle⟩
    · rw [hat];exact hk
    · rw [hb]
      intro he
      injection he with he
      omega
  have step:∀ {q:α} {c:List Value} {o:Nat→Prop},d.M W base o q c→(∀ k,o k→ok k∧some k≠v.ownBlock)→d.M w1 base (fun k=>ok k∧some k≠v1.ownBlock) q c:=by
    intro q c o hq ho
    have h1:=d.M_move (w1:=w1) (fun k hk=>hg.block k hk.2.2.1 (ho k hk.1).2) (d.M_bound hq)
    exact d.M_mono (fun k hk=>⟨(ho k hk.1).1,hne k (ho k hk.1).2 hk.2.2.1⟩) h1
  refine ⟨fun k hk=>?_,inner ++ cs,by rw [List.length_append,List.length_singleton];exact hown,?_⟩
  · rcases hat with hat|⟨b,hb,hle⟩
    · exact h0 k (hat ▸ hk)
    · rw [hb] at hk
      injection hk with hk
      exact hfresh k (by omega)
  · exact (hr.imp_ (fun _ _ hq=>step hq (fun _ hk=>hk))).snoc (step hp hokp) (d.K_len (d.K_of_M hp))
section
variable {P:Program} {ops:Array Oper} {rest:List Oper} {o:Oper} {a:Act} {Q:Exit→Act→World→Prop} {α:Type}
theorem R_append (d:Kd α) {w0 W:World} (base:Nat) (hgd:o.guard=none) (s x:Operand) (t e:TypeId) (z:Value) (bytes:Nat)
    (ho:o.op = .call { callee:=.builtin .append,args:=#[s,x],argTypes:=#[t,t] })
    (ht:P.underlying t=some (.slice e)) (hinfo:(P.info? e).map (fun i=>(i.zero,i.size,i.bytes))=some (some z,d.sz,bytes)) (hz:z.cells.size=d.sz) (hs0:0 < d.sz) (hb0:0 < bytes)
    (v:Value) (xs:List α) (p:α) (cs:List Value) (ok okp:Nat→Prop) (hs:a.eval s=v) (hx:a.eval x = .slice (some ⟨W.heap.size,0,none⟩) 1 1) (hp:d.M W base okp p cs) (hokp:∀ k,okp k→ok k∧some k≠v.ownBlock) (hfresh:∀ k,W.heap.size≤k→ok k)
    (HO:d.R e W base ok v xs) (HB:Below base w0 W) (hbase:base≤W.heap.size) (hl:(xs.length + 1) * bytes≤140737488355328)
    (h:∀ v1 w1,d.R e w1 base ok v1 (xs ++ [p])→Below base w0 w1→W.grownBy w1 v.ownBlock→(v1.ownBlock=v.ownBlock∨∃ b,v1.ownBlock=some b∧W.heap.size≤b)→wpList P ops Q rest (a.put o.dst v1) w1) :
    wpList P ops Q (o :: rest) a (W.alloc (.cells cs.toArray e)):=by
  obtain ⟨h0,inner,hown,hr⟩:=HO
  refine print_append_cells base hgd s x t e z d.sz bytes ho ht hinfo hz hs0 hb0 v xs.length inner cs hs hx (d.K_len (d.K_of_M hp)) (d.K_one (d.K_of_M hp)) hown HB hbase hl ?_
  intro v1 w1 hown1 hb1 hg1 hat1
  exact h v1 w1 (R_appended h0 hr hp hokp hfresh hown1 hg1 hat1) hb1 hg1 hat1
end
section
variable {P:Program} {ops:Array Oper} {o:Oper} {a:Act} {Q:Exit→Act→World→Prop} {Kc:Act→World→Prop} {α:Type}
theorem R_append_step (d:Kd α) {w0 W:World} (base:Nat) (hw:Region.wanted o (yielded ops a.tmps)=true) (s x:Operand) (t e:TypeId) (z:Value) (bytes:Nat)
    (ho:o.op = .call { callee:=.builtin .append,args:=#[s,x],argTypes:=#[t,t] })
    (ht:P.underlying t=some (.slice e)) (hinfo:(P.info? e).map (fun i=>(i.zero,i.size,i.bytes))=some (some z,d.sz,bytes)) (hz:z.cells.size=d.sz) (hs0:0 < d.sz) (hb0:0 < bytes)
    (v:Value) (xs:List α) (p:α) (cs:List Value) (ok okp:Nat→Prop) (hs:a.eval s=v) (hx:a.eval x = .slice (some ⟨W.heap.size,0,none⟩) 1 1) (hp:d.M W base okp p cs) (hokp:∀ k,okp k→ok k∧some k≠v.ownBlock) (hfresh:∀ k,W.heap.size≤k→ok k)
    (HO:d.R e W base ok v xs) (HB:Below base w0 W) (hbase:base≤W.heap.size) (hl:(xs.length + 1) * bytes≤140737488355328)
    (h:∀ v1 w1,d.R e w1 base ok v1 (xs ++ [p])→Below base w0 w1→W.grownBy w1 v.ownBlock→(v1.ownBlock=v.ownBlock∨∃ b,v1.ownBlock=some b∧W.heap.size≤b)→Kc (a.put o.dst v1) w1) :
    if Region.wanted o (yielded ops a.tmps)=true then Oper.wp P o a (W.alloc (.cells cs.toArray e)) Kc Q else Kc (a.put o.dst undef) (W.alloc (.cells cs.toArray e)):=by
  obtain ⟨h0,inner,hown,hr⟩:=HO
  refine step_append_cells base hw s x t e z d.sz bytes ho ht hinfo hz hs0 hb0 v xs.length inner cs hs hx (d.K_len (d.K_of_M hp)) (d.K_one (d.K_of_M hp)) hown HB hbase hl ?_
  intro v1 w1 hown1 hb1 hg1 hat1
  exact h v1 w1 (R_appended h0 hr hp hokp hfresh hown1 hg1 hat1) hb1 hg1 hat1
end
theorem reps_scalar {α:Type} {enc:α→Value} (xs:List α):Reps (fun (x:α) (cs:List Value)=>cs = [enc x]) 1 xs (encs enc xs):=by
  refine ⟨by simp [encs],fun j p hj=>?_⟩
  obtain ⟨hl,hp⟩:=List.getElem?_eq_some_iff.1 hj
  have hl':j < (encs enc xs).length:=by rw [encs_length];exact hl
  rw [Nat.mul_one,List.drop_eq_getElem_cons hl']
  simp [encs,hp]
theorem R_of_own {α:Type} {enc:α→Value} {h1:∀ x,(enc x).oneCell'=true} {e:Nat} {w:World} {base:Nat} {ok:Nat→Prop} {v:Value} {xs:List α} (ho:w.ownsRow base e 1 v xs.length (encs enc xs)) (hok:∀ k,v.ownBlock=some k→ok k):(scalar enc h1).R e w base ok v xs:=⟨hok,encs enc xs,ho,reps_scalar xs⟩
theorem own_of_R {α:Type} {enc:α→Value} {h1:∀ x,(enc x).oneCell'=true} {e:Nat} {w:World} {base:Nat} {ok:Nat→Prop} {v:Value} {xs:List α} (h:(scalar enc h1).R e w base ok v xs):w.ownsRow base e 1 v xs.length (encs enc xs):=by
  obtain ⟨_,inner,ho,hr⟩:=h
  have:inner=encs enc xs:=by
    apply List.ext_getElem?
    intro j
    rcases Nat.lt_or_ge j xs.length with hj|hj
    · have h2:=hr.2 j _ (List.getElem?_eq_getElem hj)
      have hl:j < inner.length:=by have:=hr.1;simp [scalar] at this;omega
      have h3:(inner.drop (j * 1)).take 1 = [enc xs[j]]:=h2
      rw [Nat.mul_one,List.drop_eq_getElem_cons hl] at h3
      have h4:inner[j]=enc xs[j]:=by
        have h5:=congrArg List.head? h3
        rw [List.take_succ_cons] at h5
        exact Option.some.inj h5
      rw [List.getElem?_eq_getElem hl,h4]
      simp [encs,List.getElem?_eq_getElem hj]
    · have h3:inner.length=xs.length:=by have:=hr.1;simp [scalar] at this;omega
      rw [List.getElem?_eq_none (by omega),List.getElem?_eq_none (by rw [encs_length];omega)]
  rw [← this]
  exact ho
theorem reads_of_C {α:Type} {enc:α→Value} {d:α} {h1:∀ x,(enc x).oneCell'=true} {w:World} {A:Option Addr} {n:Nat} {xs:List α} (h:(scalar enc h1).C w A n xs):ReadsOf enc d w A n xs:=by
  refine ⟨h.1,h.2.1,fun hn=>?_⟩
  obtain ⟨ad,e,hc⟩:=h.2.2 hn
  refine ⟨ad,e,fun j hj=>?_⟩
  have hl:j < xs.length:=by have:=h.1;omega
  obtain ⟨c,_,hK,hcell⟩:=hc j _ (List.getElem?_eq_getElem hl)
  have hK':c = [enc xs[j]]:=hK
  subst hK'
  have:=hcell 0 _ rfl
  simpa [scalar,List.getD_eq_getElem?_getD,List.getElem?_eq_getElem hl] using this
end Kd
namespace Kd
structure Mono {α β:Type} (F:Kd α→Kd β):Prop where
  sz:∀ d d':Kd α,d.sz=d'.sz→(F d).sz=(F d').sz
  K:∀ d d':Kd α,d.sz=d'.sz→(∀ w x cs,d.K w x cs→d'.K w x cs)→∀ w x cs,(F d).K w x cs→(F d').K w x cs
  M:∀ d d':Kd α,d.sz=d'.sz→(∀ w base ok x cs,d.M w base ok x cs→d'.M w base ok x cs)→∀ w base ok x cs,(F d).M w base ok x cs→(F d').M w base ok x cs
theorem mono_const {α β:Type} (k:Kd β):Mono (fun _:Kd α=>k):=⟨fun _ _ _=>rfl,fun _ _ _ _ _ _ _ h=>h,fun _ _ _ _ _ _ _ _ _ h=>h⟩
theorem mono_id {α:Type} : Mono (fun d:Kd α=>d):=⟨fun _ _ h=>h,fun _ _ _ h=>h,fun _ _ _ h=>h⟩
theorem C_imp {α:Type} {d d':Kd α} (hs:d.sz=d'.sz) (h:∀ w x cs,d.K w x cs→d'.K w x cs) {w:World} {A:Option Addr} {n:Nat} {xs:List α} (hc:d.C w A n xs):d'.C w A n xs:=by
  unfold C at hc ⊢
  rw [← hs]
  exact hc.imp_ (Below.refl _ _) (fun _ _ hp=>h _ _ _ hp)
theorem R_imp {α:Type} {d d':Kd α} (hs:d.sz=d'.sz) (h:∀ w base ok x cs,d.M w base ok x cs→d'.M w base ok x cs) {e:Nat} {w:World} {base:Nat} {ok:Nat→Prop} {v:Value} {xs:List α} (hr:d.R e w base ok v xs):d'.R e w base ok v xs:=by
  unfold R at hr ⊢
  rw [← hs]
  exact ⟨hr.1,hr.2.imp_ (fun _ _ hp=>h _ _ _ _ _ hp)⟩
theorem mono_slice {α β:Type} (e:Nat) {G:Kd α→Kd β} (hG:Mono G):Mono (fun d=>slice e (G d)):=by
  refine ⟨fun _ _ _=>rfl,?_,?_⟩
  · rintro d d' hs h w x cs ⟨A,c,rfl,hl,hr⟩
    exact ⟨A,c,rfl,hl,C_imp (hG.sz d d' hs) (hG.K d d' hs h) hr⟩
  · rintro d d' hs h w base ok x cs ⟨v,rfl,hr⟩
    exact ⟨v,rfl,R_imp (hG.sz d d' hs) (hG.M d d' hs h) hr⟩
theorem mono_pair {α β γ:Type} {G:Kd α→Kd β} {H:Kd α→Kd γ} (hG:Mono G) (hH:Mono H):Mono (fun d=>pair (G d) (H d)):=by
  refine ⟨fun d d' hs=>?_,?_,?_⟩
  · show (G d).sz + (H d).sz=(G d').sz + (H d').sz
    rw [hG.sz d d' hs,hH.sz d d' hs]
  · rintro d d' hs h w x cs ⟨c0,c1,rfl,h0,h1⟩
    exact ⟨c0,c1,rfl,hG.K d d' hs h _ _ _ h0,hH.K d d' hs h _ _ _ h1⟩
  · rintro d d' hs h w base ok x cs ⟨c0,c1,rfl,h0,h1⟩
    exact ⟨c0,c1,rfl,hG.M d d' hs h _ _ _ _ _ h0,hH.M d d' hs h _ _ _ _ _ h1⟩
theorem mono_iso {α β γ:Type} {G:Kd α→Kd β} (f:γ→β) (hG:Mono G):Mono (fun d=>iso (G d) f):=
  ⟨hG.sz,fun d d' hs h w x cs=>hG.K d d' hs h w (f x) cs,fun d d' hs h w base ok x cs=>hG.M d d' hs h w base ok (f x) cs⟩
def Sub {α β:Type} (F:Kd α→Kd β) (E:List Nat):Prop:=∀ d:Kd α,(∀ q,q ∈ d.E→q ∈ E)→∀ q,q ∈ (F d).E→q ∈ E
theorem sub_const {α β:Type} {E:List Nat} (k:Kd β) (h:∀ q,q ∈ k.E→q ∈ E):Sub (fun _:Kd α=>k) E:=fun _ _=>h
theorem sub_id {α:Type} {E:List Nat} : Sub (fun d:Kd α=>d) E:=fun _ h=>h
theorem sub_slice {α β:Type} {E:List Nat} (e:Nat) {G:Kd α→Kd β} (he:e ∈ E) (hG:Sub G E):Sub (fun d=>slice e (G d)) E:=fun d h q hq=>by
  rcases List.mem_cons.1 hq with rfl|hq
  · exact he
  · exact hG d h q hq
theorem sub_pair {α β γ:Type} {E:List Nat} {G:Kd α→Kd β} {H:Kd α→Kd γ} (hG:Sub G E) (hH:Sub H E):Sub (fun d=>pair (G d) (H d)) E:=fun d h q hq=>by
  rcases List.mem_append.1 hq with hq|hq
  · exact hG d h q hq
  · exact hH d h q hq
theorem sub_iso {α β γ:Type} {E:List Nat} {G:Kd α→Kd β} (f:γ→β) (hG:Sub G E):Sub (fun d=>iso (G d) f) E:=hG
theorem upto_E {α:Type} {F:Kd α→Kd α} {sz:Nat} {E:List Nat} (h:Sub F E):∀ n q,q ∈ (upto F sz E n).E→q ∈ E
  | 0,_,hq=>hq
  | n + 1,q,hq=>h _ (upto_E h n) q hq
theorem upto_sz {α:Type} {F:Kd α→Kd α} {sz:Nat} {E:List Nat} (h:∀ d:Kd α,(F d).sz=sz):∀ n,(upto F sz E n).sz=sz
  | 0=>rfl
  | _ + 1=>h _
section
variable {α:Type} {F:Kd α→Kd α} {sz:Nat} {E:List Nat} {hs:∀ n,(upto F sz E n).sz=sz} {hE:∀ n q,q ∈ (upto F sz E n).E→q ∈ E}
theorem upto_K (hm:Mono F) (hs:∀ n,(upto F sz E n).sz=sz):∀ n {w x cs},(upto F sz E n).K w x cs→(upto F sz E (n + 1)).K w x cs
  | 0,_,_,_,h=>h.elim
  | n + 1,_,_,_,h=>hm.K _ _ (by rw [hs n,hs (n + 1)]) (fun _ _ _ hk=>upto_K hm hs n hk) _ _ _ h
theorem upto_M (hm:Mono F) (hs:∀ n,(upto F sz E n).sz=sz):∀ n {w base ok x cs},(upto F sz E n).M w base ok x cs→(upto F sz E (n + 1)).M w base ok x cs
  | 0,_,_,_,_,_,h=>h.elim
  | n + 1,_,_,_,_,_,h=>hm.M _ _ (by rw [hs n,hs (n + 1)]) (fun _ _ _ _ _ hk=>upto_M hm hs n hk) _ _ _ _ _ h
theorem upto_K_le (hm:Mono F) (hs:∀ n,(upto F sz E n).sz=sz) {n m:Nat} (hnm:n≤m) {w x cs} (h:(upto F sz E n).K w x cs):(upto F sz E m).K w x cs:=by
  obtain ⟨j,rfl⟩:=Nat.exists_eq_add_of_le hnm
  induction j with
  | zero=>exact h
  | succ j ih=>exact upto_K hm hs _ (ih (by omega))
theorem upto_M_le (hm:Mono F) (hs:∀ n,(upto F sz E n).sz=sz) {n m:Nat} (hnm:n≤m) {w base ok x cs} (h:(upto F sz E n).M w base ok x cs):(upto F sz E m).M w base ok x cs:=by
  obtain ⟨j,rfl⟩:=Nat.exists_eq_add_of_le hnm
  induction j with
  | zero=>exact h
  | succ j ih=>exact upto_M hm hs _ (ih (by omega))
theorem fix_C {n:Nat} {w:World} {A:Option Addr} {m:Nat} {xs:List α} (h:(upto F sz E n).C w A m xs):(fix F sz E hs hE).C w A m xs:=C_imp (d':=fix F sz E hs hE) (hs n) (fun w x cs hp=>(⟨n,hp⟩:∃ n,(upto F sz E n).K w x cs)) h
theorem bounded {P:Nat→Nat→Prop} (hP:∀ n m j,n≤m→P n j→P m j):∀ m,(∀ j,j < m→∃ n,P n j)→∃ N,∀ j,j < m→P N j
  | 0,_=>⟨0,fun j hj=>absurd hj (Nat.not_lt_zero j)⟩
  | m + 1,h=>by
    obtain ⟨N,hN⟩:=bounded hP m (fun j hj=>h j (by omega))
    obtain ⟨n,hn⟩:=h m (by omega)
    refine ⟨max N n,fun j hj=>?_⟩
    rcases Nat.lt_or_ge j m with hj' | hj'
    · exact hP N _ j (Nat.le_max_left _ _) (hN j hj')
    · have:j=m:=by omega
      subst this
      exact hP n _ j (Nat.le_max_right _ _) hn
theorem reps_bounded {α:Type} {R:Nat→α→List Value→Prop} (hR:∀ n m p c,n≤m→R n p c→R m p c) {size:Nat} {ps:List α} {cs:List Value} (h:Reps (fun p c=>∃ n,R n p c) size ps cs):∃ N,Reps (R N) size ps cs:=by
  obtain ⟨N,hN⟩:=bounded (P:=fun n j=>∀ p,ps[j]? = some p→R n p ((cs.drop (j * size)).take size)) (fun n m j hnm hp p hj=>hR n m p _ hnm (hp p hj)) ps.length
    (fun j hj=>by
      obtain ⟨n,hn⟩:=h.2 j _ (List.getElem?_eq_getElem hj)
      refine ⟨n,fun p hp=>?_⟩
      rw [List.getElem?_eq_getElem hj] at hp
      injection hp with hp
      rw [← hp]
      exact hn)
  exact ⟨N,h.1,fun j p hj=>hN j (List.getElem?_eq_some_iff.1 hj).1 p hj⟩
theorem fix_R_back (hm:Mono F) {e:Nat} {w:World} {base:Nat} {ok:Nat→Prop} {v:Value} {xs:List α} (h:(fix F sz E hs hE).R e w base ok v xs):∃ n,(upto F sz E n).R e w base ok v xs:=by
  obtain ⟨h0,inner,ho,hr⟩:=h
  obtain ⟨N,hN⟩:=reps_bounded (R:=fun n p c=>(upto F sz E n).M w base (fun k=>ok k∧some k≠v.ownBlock) p c) (fun n m p c hnm hp=>upto_M_le hm hs hnm hp) hr
  refine ⟨N,h0,inner,?_,?_⟩
  · rw [hs N];exact ho
  · rw [hs N];exact hN
theorem fix_C_back (hm:Mono F) {w:World} {A:Option Addr} {m:Nat} {xs:List α} (h:(fix F sz E hs hE).C w A m xs):∃ n,(upto F sz E n).C w A m xs:=by
  rcases Nat.eq_zero_or_pos m with hz|hpos
  · subst hz
    exact ⟨0,h.1,h.2.1,fun hp=>absurd hp (Nat.lt_irrefl 0)⟩
  · obtain ⟨ad,e,hc⟩:=h.2.2 hpos
    obtain ⟨N,hN⟩:=bounded (P:=fun n j=>∀ p,xs[j]? = some p→∃ c,c.length=sz∧(upto F sz E n).K w p c∧∀ i u,c[i]? = some u→w.cell? (ad.add (j * sz + i))=some u)
      (fun n n' j hnm hp p hj=>by
        obtain ⟨c,h1,h2,h3⟩:=hp p hj
        exact ⟨c,h1,upto_K_le hm hs hnm h2,h3⟩) xs.length
      (fun j hj=>by
        obtain ⟨c,h1,⟨n,h2⟩,h3⟩:=hc j _ (List.getElem?_eq_getElem hj)
        refine ⟨n,fun p hp=>?_⟩
        rw [List.getElem?_eq_getElem hj] at hp
        injection hp with hp
        rw [← hp]
        exact ⟨c,h1,h2,h3⟩)
    refine ⟨N,h.1,h.2.1,fun _=>⟨ad,e,fun j p hj=>?_⟩⟩
    rw [hs N]
    exact hN j (List.getElem?_eq_some_iff.1 hj).1 p hj
theorem upto_R_le (hm:Mono F) (hs:∀ n,(upto F sz E n).sz=sz) {n m:Nat} (hnm:n≤m) {e:Nat} {w:World} {base:Nat} {ok:Nat→Prop} {v:Value} {xs:List α} (h:(upto F sz E n).R e w base ok v xs):(upto F sz E m).R e w base ok v xs:=R_imp (by rw [hs n,hs m]) (fun _ _ _ _ _ hp=>upto_M_le hm hs hnm hp) h
theorem upto_C_le (hm:Mono F) (hs:∀ n,(upto F sz E n).sz=sz) {n m:Nat} (hnm:n≤m) {w:World} {A:Option Addr} {l:Nat} {xs:List α} (h:(upto F sz E n).C w A l xs):(upto F sz E m).C w A l xs:=C_imp (by rw [hs n,hs m]) (fun _ _ _ hp=>upto_K_le hm hs hnm hp) h
end
end Kd
namespace Kd
theorem R_after {α:Type} {d:Kd α} {e base:Nat} {ok:Nat→Prop} {W w1:World} {u v v1:Value} {xs:List α} (h:d.R e W base (fun k=>ok k∧some k≠v.ownBlock) u xs) (hg:W.grownBy w1 v.ownBlock) (hat:v1.ownBlock=v.ownBlock∨∃ b,v1.ownBlock=some b∧W.heap.size≤b):d.R e w1 base (fun k=>ok k∧some k≠v1.ownBlock) u xs:=by
  refine R_mono (R_move (R_bound h) (fun k hk=>hg.block k hk.2.2.1 hk.1.2)) (fun k hk=>⟨hk.1.1,?_⟩)
  rcases hat with hat|⟨b,hb,hle⟩
  · rw [hat];exact hk.1.2
  · rw [hb]
    intro he
    injection he with he
    have:=hk.2.2.1
    omega
end Kd
namespace Kd
section
variable {α β:Type} {d:Kd α} {d':Kd β} {e e':Nat} {w w1 W:World} {base b b':Nat} {ok ok' okv oku:Nat→Prop} {v u:Value} {xs:List α} {ys:List β}
theorem R_drew (h:d.R e w base ok v xs):d.R e w.drew base ok v xs:=R_below h (below_drew (Below.refl _ _))
theorem R_drewN (h:d.R e w base ok v xs) (m:Nat):d.R e (w.drewN m) base ok v xs:=R_below h (pw_below_drewN (Below.refl _ _) m)
theorem C_nil (d:Kd α) (w:World):d.C w none ([]:List α).length []:=⟨rfl,by simp,fun h=>absurd h (Nat.lt_irrefl 0)⟩
theorem R_reads' {A:Option Addr} {n c:Nat} (h:d.R e w base ok (.slice A n c) xs):n=xs.length∧n≤c∧d.C w A xs.length xs:=by
  obtain ⟨A',c',he,hl,hr⟩:=R_reads h
  injection he with h1 h2 h3
  subst h1
  exact ⟨h2,by omega,hr⟩
theorem R_lt (h:d.R e w base ok v xs):∀ k,v.ownBlock=some k→k < w.heap.size:=by
  obtain ⟨inner,ho⟩:=R_own h
  exact own_lt ho
theorem R_base (h:d.R e w base ok v xs):∀ k,v.ownBlock=some k→base≤k:=by
  obtain ⟨inner,ho⟩:=R_own h
  exact own_base ho
theorem R_away (h:d.R e w base ok v xs) {g:Nat} (hok:∀ k,ok k→k≠g):some g≠v.ownBlock:=fun e=>hok g (h.1 g e.symm) rfl
theorem R_form (h:d.R e w base ok v xs) (hp:0 < xs.length):∃ g cap,v = .slice (some ⟨g,0,none⟩) xs.length cap∧base≤g∧g < w.heap.size∧∃ cells,w.heap[g]? = some (.cells cells e (0,0)):=by
  obtain ⟨inner,ho⟩:=R_own h
  obtain ⟨g,cap,he,hb,hl⟩:=ho.form hp
  obtain ⟨cells,hc⟩:=own_typed ho g (by rw [he];simp [Value.ownBlock])
  exact ⟨g,cap,he,hb,hl,cells,hc⟩
end
section
variable {w W:World} {A:Option Addr} {n:Nat}
theorem at_int {k:IntKind} {xs:List Int} (h:(Kd.int k).C w A n xs) (i:Int) (h0:0≤i) (h1:i < n):∃ ad,A=some ad∧w.cell? (ad.add i.toNat)=some (.int k (rd xs i)):=
  ReadsOf.at_ (reads_of_C (enc:=Value.int k) (d:=(0:Int)) (h1:=fun _=>rfl) h) i h0 h1
theorem at_string {xs:List ByteArray} (h:Kd.string.C w A n xs) (i:Int) (h0:0≤i) (h1:i < n):∃ ad,A=some ad∧w.cell? (ad.add i.toNat)=some (.string (rdOf ByteArray.empty xs i)):=
  ReadsOf.at_ (reads_of_C (enc:=Value.string) (d:=ByteArray.empty) (h1:=fun _=>rfl) h) i h0 h1
variable {α:Type} {enc:α→Value} {h1:∀ x,(enc x).oneCell'=true} {e base g cap:Nat} {ok:Nat→Prop} {xs:List α}
end
section
variable {P:Program} {ops:Array Oper} {rest:List Oper} {o:Oper} {a:Act} {Q:Exit→Act→World→Prop}
theorem event_run {W w1:World} {v:Value} (hgd:o.guard=none) (hrun:(execOp a.eval o).run P W = .ok (.value v) w1) (h:wpList P ops Q rest (a.put o.dst v) w1):wpList P ops Q (o :: rest) a W:=by
  refine wpList_plain hgd fun K hK=>?_
  unfold Oper.wp
  rw [hrun]
  exact hK _ _ h
variable {α:Type}
theorem R_lit (d:Kd α) {w0 W:World} (base e:Nat) (hgd:o.guard=none) {N:Tmp} (_hd:o.dst=some N) {xs:List α} {inner:List Value} {ok okp:Nat→Prop}
    (hrun:(execOp a.eval o).run P W = .ok (.value (.slice (some ⟨W.heap.size,0,none⟩) xs.length xs.length)) (W.alloc (.cells inner.toArray e)))
    (hrep:Reps (d.M W base okp) d.sz xs inner) (hok:∀ k,okp k→ok k) (hfresh:ok W.heap.size) (HB:Below base w0 W) (hbase:base≤W.heap.size) (hm:xs.length≤9223372036854775807)
    (h:∀ v1 w1,d.R e w1 base ok v1 xs→Below base w0 w1→W.grownBy w1 none→(∃ b,v1.ownBlock=some b∧W.heap.size≤b)→wpList P ops Q rest (a.put o.dst v1) w1):wpList P ops Q (o :: rest) a W:=by
  refine event_run hgd hrun (h _ _ ⟨fun k hk=>?_,inner,?_,?_⟩ (HB.alloc hbase _) (World.grownBy_alloc W _ none) ⟨W.heap.size,by simp [Value.ownBlock],Nat.le_refl _⟩)
  · have:W.heap.size=k:=by simpa [Value.ownBlock] using hk
    subst this
    exact hfresh
  · have h2:=World.ownsRow_lit (base:=base) (e:=e) (size:=d.sz) W inner.toArray xs.length hbase (by simpa [maxLen] using hm) (by simpa using hrep.1)
    simpa using h2
  · refine hrep.imp_ (fun p c hp=>d.M_mono (fun k hk=>⟨hok k hk.1,fun he=>?_⟩) (M_below (d.M_bound hp) (below_alloc (Below.refl _ _) _)))
    have h3:k=W.heap.size:=by simpa [Value.ownBlock] using he
    have:=hk.2.2.1
    omega
theorem reps_made {α:Type} {R:α→List Value→Prop} {z:Value} {size:Nat} {z0:α} (hz:z.cells.size=size) (hs:0 < size) (h0:R z0 z.cells.toList) (m:Nat):Reps R size (List.replicate m z0) (madeCells z.cells (m * size)).toList:=by
  refine ⟨by simp [size_madeCells],fun j p hj=>?_⟩
  obtain ⟨hjl,hp⟩:=List.getElem?_eq_some_iff.1 hj
  have hjm:j < m:=by simpa using hjl
  have hp':z0=p:=by simpa using hp
  subst hp'
  have hle:j * size + size≤m * size:=by rw [← Nat.succ_mul];exact Nat.mul_le_mul_right _ hjm
  have:((madeCells z.cells (m * size)).toList.drop (j * size)).take size=z.cells.toList:=by
    apply List.ext_getElem
    · simp [size_madeCells,hz]
      omega
    · intro i h1 h2
      have hi:i < size:=by rw [Array.length_toList,hz] at h2;exact h2
      have hmod:(j * size + i) % size=i:=by
        rw [Nat.mul_comm,Nat.mul_add_mod]
        exact Nat.mod_eq_of_lt hi
      simp [madeCells,hz,hmod]
      rw [getElem!_pos z.cells i (by omega)]
  rw [this]
  exact h0
theorem R_make (d:Kd α) {w0 W:World} (base e:Nat) (hgd:o.guard=none) {N:Tmp} (hd:o.dst=some N) (t:TypeId) (x y:Operand) (ho:o.op = .makeSlice t x y) (n:Int) (hx:a.eval x = .int .i64 n) (hy:a.eval y = .int .i64 n)
    (ht:P.underlying t=some (.slice e)) (z:Value) (bytes:Nat) (hinfo:(P.info? e).map (fun i=>(i.zero,i.size,i.bytes))=some (some z,d.sz,bytes)) (hz:z.cells.size=d.sz) (hs0:0 < d.sz) (hb0:0 < bytes)
    (z0:α) {ok okp:Nat→Prop} (hzero:d.M W base okp z0 z.cells.toList) (hok:∀ k,okp k→ok k) (hfresh:ok W.heap.size) (h0:0≤n) (hl:n.toNat * bytes≤281474976710656) (HB:Below base w0 W) (hbase:base≤W.heap.size)
    (h:∀ v1 w1,d.R e w1 base ok v1 (List.replicate n.toNat z0)→Below base w0 w1→W.grownBy w1 none→(∃ b,v1.ownBlock=some b∧W.heap.size≤b)→wpList P ops Q rest (a.put o.dst v1) w1):wpList P ops Q (o :: rest) a W:=by
  obtain ⟨m,rfl⟩:=Int.eq_ofNat_of_zero_le h0
  simp only [Int.toNat_natCast] at hl h
  obtain ⟨i0,hi,hzz⟩:=Option.map_eq_some_iff.1 hinfo
  simp only [Prod.mk.injEq] at hzz
  obtain ⟨hz0,hz1,hz2⟩:=hzz
  have hm:m≤281474976710656:=Nat.le_trans (Nat.le_mul_of_pos_right _ hb0) hl
  have hr:=run_make (P:=P) W t e i0 z ht hi hz0 .i64 .i64 (m:Int) (m:Int) (by omega) (by omega)
    (by
      have h3:((i0.bytes * m:Nat):Int)≤281474976710656:=by rw [hz2,Nat.mul_comm];omega
      rwa [Int.natCast_mul] at h3) (by omega)
  simp only [Int.toNat_natCast] at hr
  rw [hz1] at hr
  refine R_lit d base e hgd hd (xs:=List.replicate m z0) (inner:=(madeCells z.cells (m * d.sz)).toList) (okp:=okp) (ok:=ok) ?_ (reps_made hz hs0 hzero m) hok hfresh HB hbase (by simp;omega) h
  simp [execOp,ho,hx,hy,hr]
end
end Kd
section
variable {P:Program}
end
section
variable {w w1:World} {base n size:Nat} {e:TypeId} {v:Value} {xs:List Value}
theorem setCells_far {g:Nat} : ∀ (vs:List Value) (o:Nat) {w:World} (k:Nat),k≠g→(w.setCells g o vs).heap[k]? = w.heap[k]?
  | [],_,_,_,_=>rfl
  | v :: r,o,w,k,hk=>by
    rw [World.setCells,setCells_far r (o + 1) k hk]
    exact Below.heap_setCell w ⟨g,o,none⟩ v k hk
theorem setCells_same (g:Nat):∀ (vs:List Value) (o:Nat) (w:World),(w.setCells g o vs).os=w.os∧(w.setCells g o vs).tape=w.tape∧(w.setCells g o vs).output=w.output∧(w.setCells g o vs).heap.size=w.heap.size
  | [],_,_=>⟨rfl,rfl,rfl,rfl⟩
  | v :: r,o,w=>by
    obtain ⟨h1,h2,h3,h4⟩:=setCells_same g r (o + 1) (w.setCell ⟨g,o,none⟩ v)
    rw [World.setCells]
    exact ⟨h1,h2,h3,by rw [h4];simp [World.setCell]⟩
theorem setCells_row {g:Nat} {e:TypeId} : ∀ (vs:List Value) (o:Nat) (w:World) (cur:Array Value),w.heap[g]? = some (.cells cur e (0,0))→o + vs.length≤cur.size→
    ∃ cur',(w.setCells g o vs).heap[g]? = some (.cells cur' e (0,0))∧cur'.size=cur.size∧cur'.toList=cur.toList.take o ++ vs ++ cur.toList.drop (o + vs.length)
  | [],o,w,cur,h,_=>⟨cur,h,rfl,by simp⟩
  | v :: r,o,w,cur,h,hl=>by
    have h2:=blk_set h o v
    simp only [List.length_cons] at hl
    obtain ⟨cur',h3,h4,h5⟩:=setCells_row r (o + 1) (w.setCell ⟨g,o,none⟩ v) _ h2 (by simp;omega)
    refine ⟨cur',h3,by rw [h4];simp,?_⟩
    rw [h5,Array.toList_setIfInBounds]
    have ho:o < cur.toList.length:=by rw [Array.length_toList];omega
    rw [List.take_set,List.drop_set_of_lt (by omega)]
    simp only [List.length_cons]
    rw [show o + 1 + r.length=o + (r.length + 1) by omega]
    congr 1
    rw [List.take_succ_eq_append_getElem ho,List.set_append_right _ _ (by rw [List.length_take];omega)]
    have ho':o < cur.size:=by omega
    simp [Nat.min_eq_left (Nat.le_of_lt ho')]
end
section
variable {P:Program}
end
namespace Kd
section
variable {α:Type} {d:Kd α} {e:Nat} {w w1 W:World} {base:Nat} {ok ok':Nat→Prop} {v:Value} {xs:List α}
end
section
variable {P:Program} {ops:Array Oper} {rest:List Oper} {o:Oper} {a:Act} {Q':Exit→Act→World→Prop} {Kc:Act→World→Prop} {α:Type}
end
end Kd
namespace Kd
section
variable {α:Type} {d:Kd α} {e e':Nat} {w w1 W:World} {base:Nat} {ok:Nat→Prop} {u v:Value} {xs:List α}
theorem R_typed (h:d.R e w base ok v xs):∀ k,v.ownBlock=some k→∃ cells,w.heap[k]? = some (.cells cells e (0,0)):=by
  obtain ⟨inner,ho⟩:=R_own h
  exact fun k hk=>own_typed ho k hk
theorem R_over' (h:d.R e W base ok u xs) (hty:∀ k,v.ownBlock=some k→∃ cells,W.heap[k]? = some (.cells cells e' (0,0))) (ht:∀ q,q ∈ e :: d.E→q≠e') (hg:W.grownBy w1 v.ownBlock):d.R e w1 base ok u xs:=by
  refine R_mono (R_move (R_bound h) (fun k hk=>hg.block k hk.2.2.1 (fun he=>?_))) (fun _ hk=>hk.1)
  obtain ⟨_,_,_,q,hq,cells,hc⟩:=hk
  obtain ⟨cells',hc'⟩:=hty k he.symm
  rw [hc] at hc'
  injection hc' with hc'
  injection hc' with _ hc'
  exact ht q hq hc'
theorem R_apart' (h:d.R e W base ok u xs) (hty:∀ k,v.ownBlock=some k→∃ cells,W.heap[k]? = some (.cells cells e' (0,0))) (ht:∀ q,q ∈ e :: d.E→q≠e'):d.R e W base (fun k=>ok k∧some k≠v.ownBlock) u xs:=by
  refine R_mono (R_bound h) (fun k hk=>⟨hk.1,fun he=>?_⟩)
  obtain ⟨_,_,_,q,hq,cells,hc⟩:=hk
  obtain ⟨cells',hc'⟩:=hty k he.symm
  rw [hc] at hc'
  injection hc' with hc'
  injection hc' with _ hc'
  exact ht q hq hc'
theorem R_elder' (hu:d.R e W base ok u xs) (hbase:∀ k,v.ownBlock=some k→W.heap.size≤k) (hb:Below W.heap.size W w1):d.R e w1 base (fun k=>ok k∧some k≠v.ownBlock) u xs:=
  R_mono (R_move (R_bound hu) (fun k hk=>hb.block k hk.2.2.1)) (fun k hk=>⟨hk.1,fun he=>by have:=hbase k he.symm;have:=hk.2.2.1;omega⟩)
theorem R_new' (h:d.R e w1 W.heap.size ok v xs) (hlt:∀ k,u.ownBlock=some k→k < W.heap.size):d.R e w1 W.heap.size (fun k=>ok k∧some k≠u.ownBlock) v xs:=
  R_mono (R_bound h) (fun k hk=>⟨hk.1,fun he=>by have:=hlt k he.symm;have:=hk.2.1;omega⟩)
theorem fresh' (hlt:∀ k,u.ownBlock=some k→k < W.heap.size):∀ k,W.heap.size≤k→some k≠u.ownBlock:=fun k hk he=>by have:=hlt k he.symm;omega
end
end Kd
theorem seg_get {α:Type} (a seg:List α) (o:Nat) (h:o + seg.length≤a.length) (q:Nat) :
    (a.take o ++ seg ++ a.drop (o + seg.length))[q]? = if q < o then a[q]? else if q < o + seg.length then seg[q - o]? else a[q]?:=by
  have hl:(a.take o).length=o:=by rw [List.length_take];omega
  rw [List.append_assoc]
  by_cases h1:q < o
  · rw [if_pos h1,List.getElem?_append_left (by omega),List.getElem?_take,if_pos h1]
  · rw [if_neg h1,List.getElem?_append_right (by omega),hl]
    by_cases h2:q < o + seg.length
    · rw [if_pos h2,List.getElem?_append_left (by omega)]
    · rw [if_neg h2,List.getElem?_append_right (by omega),List.getElem?_drop]
      congr 1
      omega
namespace Kd
section
variable {α:Type} {d:Kd α} {e base g n cap:Nat} {ok okp:Nat→Prop} {W:World} {xs:List α}
theorem R_elem (h:d.R e W base ok (.slice (some ⟨g,0,none⟩) n cap) xs) (z:α) (i:Int) (h0:0≤i) (h1:i < n) :
    ∃ c,c.length=d.sz∧d.M W base (fun k=>ok k∧k≠g) (xs.getD i.toNat z) c∧(∀ j u,c[j]? = some u→W.cell? ⟨g,i.toNat * d.sz + j,none⟩=some u)∧∀ j,W.frozen? ⟨g,i.toNat * d.sz + j,none⟩=false:=by
  obtain ⟨hn,hnc,hC⟩:=R_reads' h
  obtain ⟨_,inner,ho,hr⟩:=h
  have hil:i.toNat < xs.length:=by omega
  have hseg:i.toNat * d.sz + d.sz≤inner.length:=by rw [hr.1,← Nat.succ_mul];exact Nat.mul_le_mul_right _ hil
  have hM:=hr.2 i.toNat _ (List.getElem?_eq_getElem hil)
  refine ⟨(inner.drop (i.toNat * d.sz)).take d.sz,by rw [List.length_take,List.length_drop];omega,?_,fun j u hu=>?_,fun j=>?_⟩
  · rw [List.getD_eq_getElem?_getD,List.getElem?_eq_getElem hil]
    exact d.M_mono (fun k hk=>⟨hk.1,fun he=>hk.2 (by rw [he];simp [Value.ownBlock])⟩) hM
  · rw [List.getElem?_take] at hu
    split at hu
    · rw [List.getElem?_drop] at hu
      have:=ho.cells (g:=g) (by simp [Value.ownBlock]) _ u hu
      rwa [add_plain] at this
    · cases hu
  · obtain ⟨cells,hc⟩:=own_typed ho g (by simp [Value.ownBlock])
    exact blk_frozen hc _
theorem R_seg (h:d.R e W base ok (.slice (some ⟨g,0,none⟩) n cap) xs) (i:Int) (h0:0≤i) (h1:i < n) {c seg:List Value} {j:Nat} (hcl:c.length=d.sz) (hcc:∀ j u,c[j]? = some u→W.cell? ⟨g,i.toNat * d.sz + j,none⟩=some u)
    (hj:j + seg.length≤d.sz) {x':α} (hM:d.M W base okp x' (c.take j ++ seg ++ c.drop (j + seg.length))) (hokp:∀ k,okp k→ok k∧k≠g) :
    d.R e (W.setCells g (i.toNat * d.sz + j) seg) base ok (.slice (some ⟨g,0,none⟩) n cap) (xs.set i.toNat x')∧W.grownBy (W.setCells g (i.toNat * d.sz + j) seg) (some g):=by
  obtain ⟨hn,hnc,_⟩:=R_reads' h
  obtain ⟨hok,inner,ho,hr⟩:=h
  have hil:i.toNat < xs.length:=by omega
  have hseg:i.toNat * d.sz + d.sz≤inner.length:=by rw [hr.1,← Nat.succ_mul];exact Nat.mul_le_mul_right _ hil
  have hin:inner.length=n * d.sz:=by rw [hr.1,hn]
  obtain ⟨ho1,ho2⟩:=ho
  rcases ho2 with ⟨hv,_⟩|⟨g',cap',cur,hv,hb,hh,hnc',hcm,hcs,ht⟩
  · cases hv
  injection hv with ha _ hc
  injection ha with ha
  injection ha with hg
  subst hg;subst hc
  have hfit:i.toNat * d.sz + j + seg.length≤cur.size:=by
    have:n * d.sz≤cap * d.sz:=Nat.mul_le_mul_right _ hnc
    omega
  obtain ⟨cur',h3,h4,h5⟩:=setCells_row seg (i.toNat * d.sz + j) W cur hh hfit
  obtain ⟨s1,s2,s3,s4⟩:=setCells_same g seg (i.toNat * d.sz + j) W
  have hfar:∀ k,k≠g→(W.setCells g (i.toNat * d.sz + j) seg).heap[k]? = W.heap[k]?:=fun k hk=>setCells_far seg _ k hk
  -- the element's cells before are what was read
  have hcin:∀ q,q < d.sz→c[q]? = inner[i.toNat * d.sz + q]?:=by
    intro q hq
    have hq':q < c.length:=by omega
    have h6:=hcc q _ (List.getElem?_eq_getElem hq')
    rw [cell_of_row W g _ cur e (0,0) hh] at h6
    rw [List.getElem?_eq_getElem hq',← h6,← ht,List.getElem?_take,if_pos (by rw [← hn];omega),Array.getElem?_toList]
  refine ⟨⟨hok,inner.take (i.toNat * d.sz + j) ++ seg ++ inner.drop (i.toNat * d.sz + j + seg.length),⟨?_,.inr ⟨g,cap,cur',by rw [List.length_set,hn],hb,h3,by rw [List.length_set,← hn];exact hnc,hcm,by rw [h4,hcs],?_⟩⟩,?_⟩,
    ⟨s1,s2,s3,by rw [s4];exact Nat.le_refl _,fun k _ hk=>hfar k (fun he=>hk (by rw [he]))⟩⟩
  · rw [List.length_set]
    simp only [List.length_append,List.length_take,List.length_drop]
    rw [hr.1] at hseg ⊢
    omega
  · rw [List.length_set,← hn]
    apply List.ext_getElem?
    intro q
    rw [List.getElem?_take,h5]
    rw [seg_get cur.toList seg (i.toNat * d.sz + j) (by rw [Array.length_toList];omega) q,seg_get inner seg (i.toNat * d.sz + j) (by omega) q]
    have hcur:∀ q,q < n * d.sz→cur.toList[q]? = inner[q]?:=by
      intro q hq
      rw [← ht,List.getElem?_take,if_pos (by rw [← hn];exact hq)]
    by_cases hq:q < n * d.sz
    · rw [if_pos hq,hcur q hq]
    · rw [if_neg hq,if_neg (by omega),if_neg (by omega),List.getElem?_eq_none (by omega)]
  · refine ⟨?_,fun m p hm=>?_⟩
    · rw [List.length_set]
      simp only [List.length_append,List.length_take,List.length_drop]
      rw [hr.1] at hseg ⊢
      omega
    · have hml:m < xs.length:=by
        have:=(List.getElem?_eq_some_iff.1 hm).1
        rwa [List.length_set] at this
      have hmfit:m * d.sz + d.sz≤inner.length:=by rw [hr.1,← Nat.succ_mul];exact Nat.mul_le_mul_right _ hml
      have hgo:some g=(Value.slice (some ⟨g,0,none⟩) n cap).ownBlock:=by simp [Value.ownBlock]
      by_cases hmi:m=i.toNat
      · subst hmi
        rw [List.getElem?_set_self (by omega)] at hm
        injection hm with hm
        subst hm
        have hcells:((inner.take (i.toNat * d.sz + j) ++ seg ++ inner.drop (i.toNat * d.sz + j + seg.length)).drop (i.toNat * d.sz)).take d.sz=c.take j ++ seg ++ c.drop (j + seg.length):=by
          apply List.ext_getElem?
          intro q
          rw [List.getElem?_take,List.getElem?_drop,seg_get inner seg _ (by omega),seg_get c seg j (by omega) q]
          by_cases hq:q < d.sz
          · rw [if_pos hq,hcin q hq]
            by_cases hq1:q < j
            · rw [if_pos (by omega),if_pos hq1]
            · rw [if_neg (by omega),if_neg hq1]
              by_cases hq2:q < j + seg.length
              · rw [if_pos (by omega),if_pos hq2]
                congr 1
                omega
              · rw [if_neg (by omega),if_neg hq2]
          · rw [if_neg hq,if_neg (by omega),if_neg (by omega),List.getElem?_eq_none (by omega)]
        rw [hcells]
        refine d.M_mono (fun k hk=>?_) (d.M_move (w1:=W.setCells g (i.toNat * d.sz + j) seg) (fun k hk=>hfar k (hokp k hk).2) hM)
        exact ⟨(hokp k hk).1,fun he=>(hokp k hk).2 (by rw [← hgo] at he;injection he)⟩
      · rw [List.getElem?_set_ne (by omega)] at hm
        have hold:=hr.2 m p hm
        have hcells:((inner.take (i.toNat * d.sz + j) ++ seg ++ inner.drop (i.toNat * d.sz + j + seg.length)).drop (m * d.sz)).take d.sz=(inner.drop (m * d.sz)).take d.sz:=by
          apply List.ext_getElem?
          intro q
          rw [List.getElem?_take,List.getElem?_take,List.getElem?_drop,List.getElem?_drop,seg_get inner seg _ (by omega)]
          by_cases hq:q < d.sz
          · rw [if_pos hq,if_pos hq]
            rcases Nat.lt_or_gt_of_ne hmi with hlt|hgt
            · have:m * d.sz + d.sz≤i.toNat * d.sz:=by rw [← Nat.succ_mul];exact Nat.mul_le_mul_right _ hlt
              rw [if_pos (by omega)]
            · have:i.toNat * d.sz + d.sz≤m * d.sz:=by rw [← Nat.succ_mul];exact Nat.mul_le_mul_right _ hgt
              rw [if_neg (by omega),if_neg (by omega)]
          · rw [if_neg hq,if_neg hq]
        rw [hcells]
        refine d.M_move (fun k hk=>hfar k (fun he=>hk.2 (by rw [he];exact hgo))) hold
end
end Kd
namespace Kd
section
variable {α:Type} {F:Kd α→Kd α} {sz:Nat} {E:List Nat} {hs:∀ n,(upto F sz E n).sz=sz} {hE:∀ n q,q ∈ (upto F sz E n).E→q ∈ E}
end
end Kd
namespace Kd
theorem reps_append {α:Type} {R:α→List Value→Prop} {size:Nat} {ps qs:List α} {cs ds:List Value} (h:Reps R size ps cs) (h':Reps R size qs ds):Reps R size (ps ++ qs) (cs ++ ds):=by
  refine ⟨by rw [List.length_append,List.length_append,h.1,h'.1,Nat.add_mul],fun j p hj=>?_⟩
  rcases Nat.lt_or_ge j ps.length with hlt|hge
  · rw [List.getElem?_append_left hlt] at hj
    have hle:j * size + size≤cs.length:=by rw [h.1,← Nat.succ_mul];exact Nat.mul_le_mul_right _ hlt
    rw [List.drop_append_of_le_length (by omega),List.take_append_of_le_length (by rw [List.length_drop];omega)]
    exact h.2 j p hj
  · rw [List.getElem?_append_right hge] at hj
    have h2:=h'.2 (j - ps.length) p hj
    have hle:ps.length * size≤j * size:=Nat.mul_le_mul_right _ hge
    rw [List.drop_append,List.drop_eq_nil_of_le (by rw [h.1];exact hle),List.nil_append,h.1,← Nat.sub_mul]
    exact h2
section
variable {P:Program} {ops:Array Oper} {rest:List Oper} {o:Oper} {a:Act} {Q:Exit→Act→World→Prop} {α:Type}
theorem R_append_rows (d:Kd α) {Rr:α→List Value→Prop} {w0 W:World} (base:Nat) (hgd:o.guard=none) (s x:Operand) (t e:TypeId) (z:Value) (bytes:Nat)
    (ho:o.op = .call { callee:=.builtin .append,args:=#[s,x],argTypes:=#[t,t] })
    (ht:P.underlying t=some (.slice e)) (hinfo:(P.info? e).map (fun i=>(i.zero,i.size,i.bytes))=some (some z,d.sz,bytes)) (hz:z.cells.size=d.sz) (hs0:0 < d.sz) (hb0:0 < bytes)
    (v:Value) (xs ys:List α) (A:Option Addr) (m c:Nat) (ok okp:Nat→Prop) (hs:a.eval s=v) (hx:a.eval x = .slice A m c)
    (HO:d.R e W base ok v xs) (HR:ReadsRow Rr d.sz W A m ys) (hKM:∀ x cs,Rr x cs→d.M W base okp x cs) (hokp:∀ k,okp k→ok k∧some k≠v.ownBlock) (hfresh:∀ k,W.heap.size≤k→ok k)
    (HB:Below base w0 W) (hbase:base≤W.heap.size) (hl:(xs.length + m) * bytes≤140737488355328)
    (h:∀ v1 w1,d.R e w1 base ok v1 (xs ++ ys)→Below base w0 w1→W.grownBy w1 v.ownBlock→(v1.ownBlock=v.ownBlock∨∃ b,v1.ownBlock=some b∧W.heap.size≤b)→wpList P ops Q rest (a.put o.dst v1) w1) :
    wpList P ops Q (o :: rest) a W:=by
  obtain ⟨i0,hi,hzz⟩:=Option.map_eq_some_iff.1 hinfo
  simp only [Prod.mk.injEq] at hzz
  obtain ⟨hz0,hz1,hz2⟩:=hzz
  have hm:ys.length=m:=HR.1
  have hlen:xs.length + m≤140737488355328:=Nat.le_trans (Nat.le_mul_of_pos_right _ hb0) hl
  obtain ⟨hok,inner,hown,hr⟩:=HO
  have hrun:∃ v1 w1,(Builtin.append_ #[t,t] o.type #[v,.slice A m c]).run P W = .ok v1 w1∧d.R e w1 base ok v1 (xs ++ ys)∧W.grownBy w1 v.ownBlock∧(v1.ownBlock=v.ownBlock∨∃ b,v1.ownBlock=some b∧W.heap.size≤b):=by
    rcases A with _|ad
    · have h0:m=0:=by
        rcases Nat.eq_zero_or_pos m with h0|h0
        · exact h0
        · obtain ⟨ad,h,_⟩:=HR.2.2 h0
          cases h
      subst h0
      obtain rfl:ys = []:=List.eq_nil_of_length_eq_zero hm
      refine ⟨v,W,?_,by rw [List.append_nil];exact ⟨hok,inner,hown,hr⟩,World.grownBy.refl W _,.inl rfl⟩
      rcases hown.2 with ⟨rfl,hn⟩|⟨g,cap,cur,rfl,_,_,hnc,_⟩
      · simp [Builtin.append_,run_underlying ht,sizeOf,typeInfo,hi,Builtin.lenOf,Builtin.firstCells]
      · simp [Builtin.append_,run_underlying ht,sizeOf,typeInfo,hi,Builtin.lenOf,Builtin.firstCells,hnc,storeCells]
    · obtain ⟨news,hnr,hnc⟩:=ReadsRow.inner_ HR
      have hnM:Reps (d.M W base okp) d.sz ys news:=hnr.imp_ (fun p c hp=>hKM p c hp)
      have hone:∀ u ∈ news,u.oneCell'=true:=by
        intro u hu
        obtain ⟨q,hq,rfl⟩:=List.mem_iff_getElem.1 hu
        have hql:q / d.sz < ys.length:=by
          rw [Nat.div_lt_iff_lt_mul hs0]
          rw [← hnM.1]
          exact hq
        have hc:=hnM.2 (q / d.sz) _ (List.getElem?_eq_getElem hql)
        refine d.K_one (d.K_of_M hc) _ ?_
        rw [List.mem_iff_getElem?]
        refine ⟨q % d.sz,?_⟩
        rw [List.getElem?_take,if_pos (Nat.mod_lt _ hs0),List.getElem?_drop,Nat.mul_comm,Nat.div_add_mod,List.getElem?_eq_getElem hq]
      obtain ⟨v1,w1,hrun,h2,hg,_,hat⟩:=run_append_own_at (P:=P) W base t o.type e i0 z d.sz bytes ht hi hz0 hz1 hz2 hz hs0 v xs.length inner hown ad m c news (by rw [hnM.1,hm]) hnc hone (by simp only [maxLen];omega) hl hbase
      have hat':v1.ownBlock=v.ownBlock∨∃ b,v1.ownBlock=some b∧W.heap.size≤b:=by
        rcases hat with hat|hat
        · exact .inl hat
        · exact .inr ⟨_,hat,Nat.le_refl _⟩
      have hne:∀ k,some k≠v.ownBlock→k < W.heap.size→some k≠v1.ownBlock:=by
        intro k hk hlt
        rcases hat' with hat|⟨b,hb,hle⟩
        · rw [hat];exact hk
        · rw [hb]
          intro he
          injection he with he
          omega
      have step:∀ {q:α} {c:List Value} {o:Nat→Prop},d.M W base o q c→(∀ k,o k→ok k∧some k≠v.ownBlock)→d.M w1 base (fun k=>ok k∧some k≠v1.ownBlock) q c:=by
        intro q c o hq ho
        have h1:=d.M_move (w1:=w1) (fun k hk=>hg.block k hk.2.2.1 (ho k hk.1).2) (d.M_bound hq)
        exact d.M_mono (fun k hk=>⟨(ho k hk.1).1,hne k (ho k hk.1).2 hk.2.2.1⟩) h1
      refine ⟨v1,w1,hrun,⟨fun k hk=>?_,inner ++ news,by rw [List.length_append,hm];exact h2,reps_append (hr.imp_ (fun _ _ hq=>step hq (fun _ hk=>hk))) (hnM.imp_ (fun _ _ hq=>step hq hokp))⟩,hg,hat'⟩
      rcases hat' with hat|⟨b,hb,hle⟩
      · exact hok k (hat ▸ hk)
      · rw [hb] at hk
        injection hk with hk
        exact hfresh k (by omega)
  obtain ⟨v1,w1,hr1,h1,hg,hat⟩:=hrun
  refine wpList_plain hgd fun K hK=>?_
  unfold Oper.wp execOp
  simp only [ho,resolve,invoke,builtin,Sem.run_bind,Sem.run_pure,Result.andThen_ok,List.map_toArray,List.map_cons,List.map_nil,hs,hx,hr1]
  exact hK _ _ (h v1 w1 h1 (HB.grown hg hbase (own_base hown)) hg hat)
end
end Kd
namespace Kd
section
variable {P:Program} {ops:Array Oper} {rest:List Oper} {o:Oper} {a:Act} {Q:Exit→Act→World→Prop} {α:Type}
end
end Kd
namespace Kd
section
variable {α:Type} {k:Kd α} {w:World} {A:Option Addr} {xs:List α} {m c:Nat}
end
end Kd
section
variable {P:Program}
end
theorem below_size {w W:World} (h:Below w.heap.size w W):w.heap.size≤W.heap.size:=h.size
theorem below_step {w W w2:World} (h:Below w.heap.size w W) (k:Below W.heap.size W w2):Below w.heap.size w w2:=below_then h h.size k
theorem below_set {w W:World} {g j:Nat} {v:Value} (h:Below w.heap.size w W) (hg:w.heap.size≤g):Below w.heap.size w (W.setCell ⟨g,j,none⟩ v):=h.setCell hg _
theorem add_block (a:Addr) (i:Nat):(a.add i).block=a.block:=by unfold Addr.add;split <;> rfl
theorem cell_far {W:World} {p a:Addr} (h:a.block≠p.block) (u:Value):(W.setCell p u).cell? a=W.cell? a:=by
  have:=Below.heap_setCell W p u a.block h
  simp [World.cell?,this]
theorem blk_put {w:World} {g:Nat} {t:TypeId} {cs cs':Array Value} (h:w.heap[g]? = some (.cells cs t (0,0))) (i:Nat) (u:Value) (e:cs.setIfInBounds i u=cs'):(w.setCell ⟨g,i,none⟩ u).heap[g]? = some (.cells cs' t (0,0)):=e ▸ blk_set h i u
theorem own_blk {W:World} {base n c:Nat} {e:TypeId} {size g:Nat} {ad:Addr} {xs:List Value} (_:W.ownsRow base e size (.slice (some ad) n c) n xs) (hne:some g≠(Value.slice (some ad) n c).ownBlock):ad.block≠g:=by
  rintro rfl
  exact hne (by simp [Value.ownBlock])
theorem below_drew1 {base:Nat} {w W:World} (h:Below base w W):Below base w W.drew:=h.drew
namespace Kd
section
variable {α β:Type} {d:Kd α} {d':Kd β} {e e' base base' n:Nat} {ok ok':Nat→Prop} {w W w1 W1:World} {v u:Value} {xs:List α} {ys:List β} {A:Option Addr} {c:Nat}
theorem own_blk {ad:Addr} {g:Nat} (hne:some g≠(Value.slice (some ad) n c).ownBlock):ad.block≠g:=by
  rintro rfl
  exact hne (by simp [Value.ownBlock])
end
section
variable {α:Type} {enc:α→Value} {h1:∀ x,(enc x).oneCell'=true} {w W:World} {A:Option Addr} {n g:Nat} {xs:List α}
end
end Kd
namespace Kd
section
variable {α:Type} {d:Kd α} {e base g:Nat} {ok:Nat→Prop} {w w1:World} {v:Value} {xs:List α} {o:Obj}
theorem R_elderB (h:d.R e w base ok v xs) (a:Nat) (ha:w.heap.size≤a):d.R e w base (fun k=>ok k∧k≠a) v xs:=R_mono (R_bound h) (fun k hk=>⟨hk.1,by have:=hk.2.2.1;omega⟩)
theorem R_newB (h:d.R e w1 w.heap.size ok v xs) (hb:w.heap[g]? = some o):d.R e w1 w.heap.size (fun k=>ok k∧k≠g) v xs:=R_mono (R_bound h) (fun k hk=>⟨hk.1,by have:=blk_lt hb;have:=hk.2.1;omega⟩)
theorem freshB (hb:w.heap[g]? = some o):∀ k,w.heap.size≤k→k≠g:=fun k hk=>by have:=blk_lt hb;omega
end
end Kd
section
variable {P:Program} {ops:Array Oper} {rest:List Oper} {o:Oper} {a:Act} {Q:Exit→Act→World→Prop}
theorem box_event {W:World} (hgd:o.guard=none) {N:Tmp} (_hd:o.dst=some N) {cs:Array Value} {t:TypeId}
    (hrun:(execOp a.eval o).run P W = .ok (.value (.pointer (some ⟨W.heap.size,0,none⟩))) (W.alloc (.cells cs t (0,0))))
    (h:∀ g,g=W.heap.size→∀ w1,w1.heap[g]? = some (.cells cs t (0,0))→Below W.heap.size W w1→wpList P ops Q rest (a.put o.dst (.pointer (some ⟨g,0,none⟩))) w1):wpList P ops Q (o :: rest) a W:=
  Kd.event_run hgd hrun (h _ rfl _ (blk_new W _) (below_alloc (Below.refl _ _) _))
end
namespace Kd
section
variable {α:Type} {enc:α→Value} {h1:∀ x,(enc x).oneCell'=true} {e base g n cap:Nat} {ok:Nat→Prop} {W:World} {xs:List α}
end
end Kd
section
variable {P:Program} {ops:Array Oper} {rest:List Oper} {o:Oper} {a:Act} {Q:Exit→Act→World→Prop}
theorem store_event {W w1:World} (hgd:o.guard=none) {t:TypeId} {p:Tmp} {v:Operand} (_ho:o.op = .store t (.tmp p) v) (hN:o.dst=none)
    (hrun:(execOp a.eval o).run P W = .ok .skip w1) (h:∀ w',w'=w1→wpList P ops Q rest a w'):wpList P ops Q (o :: rest) a W:=by
  refine wpList_plain hgd fun K hK=>?_
  unfold Oper.wp
  rw [hrun]
  show K (a.put o.dst undef) w1
  rw [hN]
  exact hK _ _ (h _ rfl)
end
namespace Kd
section
variable {α:Type} {enc:α→Value} {h1:∀ x,(enc x).oneCell'=true} {e base g n cap:Nat} {ok:Nat→Prop} {W:World} {xs:List α}
end
end Kd
section
variable {P:Program} {ops:Array Oper} {rest:List Oper} {o:Oper} {a:Act} {Q:Exit→Act→World→Prop} {W:World}
theorem gate_dst {N:Tmp} (_hN:o.dst=some N) (h:wpList P ops Q (o :: rest) a W):wpList P ops Q (o :: rest) a W:=h
theorem gate_store {t:TypeId} {p:Tmp} {v:Operand} (_ho:o.op = .store t (.tmp p) v) (h:wpList P ops Q (o :: rest) a W):wpList P ops Q (o :: rest) a W:=h
end
section
variable {P:Program} {ops:Array Oper} {o:Oper} {a:Act} {Q:Exit→Act→World→Prop} {Kc:Act→World→Prop}
theorem event_step {W w1:World} {v:Value} (hw:Region.wanted o (yielded ops a.tmps)=true) (hrun:(execOp a.eval o).run P W = .ok (.value v) w1) (h:Kc (a.put o.dst v) w1):if Region.wanted o (yielded ops a.tmps)=true then Oper.wp P o a W Kc Q else Kc (a.put o.dst undef) W:=by
  rw [if_pos hw]
  unfold Oper.wp
  rw [hrun]
  exact h
theorem box_step {W:World} (hw:Region.wanted o (yielded ops a.tmps)=true) {N:Tmp} (_hd:o.dst=some N) {cs:Array Value} {t:TypeId}
    (hrun:(execOp a.eval o).run P W = .ok (.value (.pointer (some ⟨W.heap.size,0,none⟩))) (W.alloc (.cells cs t (0,0))))
    (h:∀ g,g=W.heap.size→∀ w1,w1.heap[g]? = some (.cells cs t (0,0))→Below W.heap.size W w1→Kc (a.put o.dst (.pointer (some ⟨g,0,none⟩))) w1):if Region.wanted o (yielded ops a.tmps)=true then Oper.wp P o a W Kc Q else Kc (a.put o.dst undef) W:=
  event_step hw hrun (h _ rfl _ (blk_new W _) (below_alloc (Below.refl _ _) _))
namespace Kd
variable {α:Type}
theorem R_lit_step (d:Kd α) {w0 W:World} (base e:Nat) (hw:Region.wanted o (yielded ops a.tmps)=true) {N:Tmp} (_hd:o.dst=some N) {xs:List α} {inner:List Value} {ok okp:Nat→Prop}
    (hrun:(execOp a.eval o).run P W = .ok (.value (.slice (some ⟨W.heap.size,0,none⟩) xs.length xs.length)) (W.alloc (.cells inner.toArray e)))
    (hrep:Reps (d.M W base okp) d.sz xs inner) (hok:∀ k,okp k→ok k) (hfresh:ok W.heap.size) (HB:Below base w0 W) (hbase:base≤W.heap.size) (hm:xs.length≤9223372036854775807)
    (h:∀ v1 w1,d.R e w1 base ok v1 xs→Below base w0 w1→W.grownBy w1 none→(∃ b,v1.ownBlock=some b∧W.heap.size≤b)→Kc (a.put o.dst v1) w1):if Region.wanted o (yielded ops a.tmps)=true then Oper.wp P o a W Kc Q else Kc (a.put o.dst undef) W:=by
  refine event_step hw hrun (h _ _ ⟨fun k hk=>?_,inner,?_,?_⟩ (HB.alloc hbase _) (World.grownBy_alloc W _ none) ⟨W.heap.size,by simp [Value.ownBlock],Nat.le_refl _⟩)
  · have:W.heap.size=k:=by simpa [Value.ownBlock] using hk
    subst this
    exact hfresh
  · have h2:=World.ownsRow_lit (base:=base) (e:=e) (size:=d.sz) W inner.toArray xs.length hbase (by simpa [maxLen] using hm) (by simpa using hrep.1)
    simpa using h2
  · refine hrep.imp_ (fun p c hp=>d.M_mono (fun k hk=>⟨hok k hk.1,fun he=>?_⟩) (M_below (d.M_bound hp) (below_alloc (Below.refl _ _) _)))
    have h3:k=W.heap.size:=by simpa [Value.ownBlock] using he
    have:=hk.2.2.1
    omega
theorem R_append_rows_step (d:Kd α) {Rr:α→List Value→Prop} {w0 W:World} (base:Nat) (hw:Region.wanted o (yielded ops a.tmps)=true) (s x:Operand) (t e:TypeId) (z:Value) (bytes:Nat)
    (ho:o.op = .call { callee:=.builtin .append,args:=#[s,x],argTypes:=#[t,t] })
    (ht:P.underlying t=some (.slice e)) (hinfo:(P.info? e).map (fun i=>(i.zero,i.size,i.bytes))=some (some z,d.sz,bytes)) (hz:z.cells.size=d.sz) (hs0:0 < d.sz) (hb0:0 < bytes)
    (v:Value) (xs ys:List α) (A:Option Addr) (m c:Nat) (ok okp:Nat→Prop) (hs:a.eval s=v) (hx:a.eval x = .slice A m c)
    (HO:d.R e W base ok v xs) (HR:ReadsRow Rr d.sz W A m ys) (hKM:∀ x cs,Rr x cs→d.M W base okp x cs) (hokp:∀ k,okp k→ok k∧some k≠v.ownBlock) (hfresh:∀ k,W.heap.size≤k→ok k)
    (HB:Below base w0 W) (hbase:base≤W.heap.size) (hl:(xs.length + m) * bytes≤140737488355328)
    (h:∀ v1 w1,d.R e w1 base ok v1 (xs ++ ys)→Below base w0 w1→W.grownBy w1 v.ownBlock→(v1.ownBlock=v.ownBlock∨∃ b,v1.ownBlock=some b∧W.heap.size≤b)→Kc (a.put o.dst v1) w1) :
    if Region.wanted o (yielded ops a.tmps)=true then Oper.wp P o a W Kc Q else Kc (a.put o.dst undef) W:=by
  obtain ⟨i0,hi,hzz⟩:=Option.map_eq_some_iff.1 hinfo
  simp only [Prod.mk.injEq] at hzz
  obtain ⟨hz0,hz1,hz2⟩:=hzz
  have hm:ys.length=m:=HR.1
  have hlen:xs.length + m≤140737488355328:=Nat.le_trans (Nat.le_mul_of_pos_right _ hb0) hl
  obtain ⟨hok,inner,hown,hr⟩:=HO
  have hrun:∃ v1 w1,(Builtin.append_ #[t,t] o.type #[v,.slice A m c]).run P W = .ok v1 w1∧d.R e w1 base ok v1 (xs ++ ys)∧W.grownBy w1 v.ownBlock∧(v1.ownBlock=v.ownBlock∨∃ b,v1.ownBlock=some b∧W.heap.size≤b):=by
    rcases A with _|ad
    · have h0:m=0:=by
        rcases Nat.eq_zero_or_pos m with h0|h0
        · exact h0
        · obtain ⟨ad,h,_⟩:=HR.2.2 h0
          cases h
      subst h0
      obtain rfl:ys = []:=List.eq_nil_of_length_eq_zero hm
      refine ⟨v,W,?_,by rw [List.append_nil];exact ⟨hok,inner,hown,hr⟩,World.grownBy.refl W _,.inl rfl⟩
      rcases hown.2 with ⟨rfl,hn⟩|⟨g,cap,cur,rfl,_,_,hnc,_⟩
      · simp [Builtin.append_,run_underlying ht,sizeOf,typeInfo,hi,Builtin.lenOf,Builtin.firstCells]
      · simp [Builtin.append_,run_underlying ht,sizeOf,typeInfo,hi,Builtin.lenOf,Builtin.firstCells,hnc,storeCells]
    · obtain ⟨news,hnr,hnc⟩:=ReadsRow.inner_ HR
      have hnM:Reps (d.M W base okp) d.sz ys news:=hnr.imp_ (fun p c hp=>hKM p c hp)
      have hone:∀ u ∈ news,u.oneCell'=true:=by
        intro u hu
        obtain ⟨q,hq,rfl⟩:=List.mem_iff_getElem.1 hu
        have hql:q / d.sz < ys.length:=by
          rw [Nat.div_lt_iff_lt_mul hs0]
          rw [← hnM.1]
          exact hq
        have hc:=hnM.2 (q / d.sz) _ (List.getElem?_eq_getElem hql)
        refine d.K_one (d.K_of_M hc) _ ?_
        rw [List.mem_iff_getElem?]
        refine ⟨q % d.sz,?_⟩
        rw [List.getElem?_take,if_pos (Nat.mod_lt _ hs0),List.getElem?_drop,Nat.mul_comm,Nat.div_add_mod,List.getElem?_eq_getElem hq]
      obtain ⟨v1,w1,hrun,h2,hg,_,hat⟩:=run_append_own_at (P:=P) W base t o.type e i0 z d.sz bytes ht hi hz0 hz1 hz2 hz hs0 v xs.length inner hown ad m c news (by rw [hnM.1,hm]) hnc hone (by simp only [maxLen];omega) hl hbase
      have hat':v1.ownBlock=v.ownBlock∨∃ b,v1.ownBlock=some b∧W.heap.size≤b:=by
        rcases hat with hat|hat
        · exact .inl hat
        · exact .inr ⟨_,hat,Nat.le_refl _⟩
      have hne:∀ k,some k≠v.ownBlock→k < W.heap.size→some k≠v1.ownBlock:=by
        intro k hk hlt
        rcases hat' with hat|⟨b,hb,hle⟩
        · rw [hat];exact hk
        · rw [hb]
          intro he
          injection he with he
          omega
      have step:∀ {q:α} {c:List Value} {o:Nat→Prop},d.M W base o q c→(∀ k,o k→ok k∧some k≠v.ownBlock)→d.M w1 base (fun k=>ok k∧some k≠v1.ownBlock) q c:=by
        intro q c o hq ho
        have h1:=d.M_move (w1:=w1) (fun k hk=>hg.block k hk.2.2.1 (ho k hk.1).2) (d.M_bound hq)
        exact d.M_mono (fun k hk=>⟨(ho k hk.1).1,hne k (ho k hk.1).2 hk.2.2.1⟩) h1
      refine ⟨v1,w1,hrun,⟨fun k hk=>?_,inner ++ news,by rw [List.length_append,hm];exact h2,reps_append (hr.imp_ (fun _ _ hq=>step hq (fun _ hk=>hk))) (hnM.imp_ (fun _ _ hq=>step hq hokp))⟩,hg,hat'⟩
      rcases hat' with hat|⟨b,hb,hle⟩
      · exact hok k (hat ▸ hk)
      · rw [hb] at hk
        injection hk with hk
        exact hfresh k (by omega)
  obtain ⟨v1,w1,hr1,h1,hg,hat⟩:=hrun
  rw [if_pos hw]
  unfold Oper.wp execOp
  simp only [ho,resolve,invoke,builtin,Sem.run_bind,Sem.run_pure,Result.andThen_ok,List.map_toArray,List.map_cons,List.map_nil,hs,hx,hr1]
  exact h v1 w1 h1 (HB.grown hg hbase (own_base hown)) hg hat
end Kd
end
section
variable {P:Program} {tmps:Array Value} {w:World}
end
namespace Kd
section
variable {P:Program} {α:Type}
end
section
variable {P:Program} {ops:Array Oper} {rest:List Oper} {o:Oper} {a:Act} {Q:Exit→Act→World→Prop} {Kc:Act→World→Prop} {α:Type}
end
end Kd
end Go.Proofs.YtnkpakakgfkpbaaW.PrintWords

end
section
namespace Go.Proofs.YtnkpakakgfkpbaaW.PrintLast
section
variable {P:Program} {ops:Array Oper} {Q:Exit→Act→World→Prop} {md:Region.Mode} {S:World→Prop} {ds:List Nat}
def Region.reachB (md:Region.Mode) (ops:Array Oper) (i:Nat):Nat→Nat→Bool
  | 0,_=>false
  | fuel + 1,d=>match ops[d]? with
    | some o=>o.after.any fun e=>Region.binds md e && (e.on == i || Region.reachB md ops i fuel e.on)
    | none=>false
def Region.closedB (md:Region.Mode) (ops:Array Oper) (listed:Array Bool):Bool:=
  (List.range ops.size).all fun j=>!listed.getD j false || match ops[j]? with
    | some o=>o.after.all fun e=>!Region.binds md e || listed.getD e.on false
    | none=>true
def Region.lastB (md:Region.Mode) (ops:Array Oper) (listed:Array Bool) (ds:List Nat) (i:Nat):Bool:=
  ds.all fun d=>listed.getD d true || Region.reachB md ops i ops.size d
def ListedClosed (md:Region.Mode) (ops:Array Oper) (listed:Array Bool):Prop:=
  ∀ j oj,ops[j]? = some oj→listed.getD j false=true→∀ e ∈ oj.after,Region.binds md e=true→listed.getD e.on false=true
theorem Region.closedB_spec {listed:Array Bool} (h:Region.closedB md ops listed=true):ListedClosed md ops listed:=by
  intro j oj hj hl e he hb
  have hlt:j < ops.size:=(Array.getElem?_eq_some_iff.1 hj).1
  have h1:=List.all_eq_true.1 h j (List.mem_range.2 hlt)
  simp only [hl,hj,Bool.not_true,Bool.false_or] at h1
  have h2:=Array.all_eq_true_iff_forall_mem.1 h1 e he
  simpa [hb] using h2
theorem ListedClosed.set {listed:Array Bool} {i:Nat} (h:ListedClosed md ops listed) (hi:i ∈ Region.ready md ops listed):ListedClosed md ops (listed.setIfInBounds i true):=by
  obtain ⟨_,oi,hoi,hall⟩:=mem_ready.1 hi
  intro j oj hj hl e he hb
  by_cases hij:i=j
  · subst hij
    have:oj=oi:=Option.some.inj (hj.symm.trans hoi)
    subst this
    exact getD_set_true (hall e he hb)
  · rw [getD_set_ne false hij] at hl
    exact getD_set_true (h j oj hj hl e he hb)
theorem Region.reach_listed {listed:Array Bool} {i:Nat} (hc:ListedClosed md ops listed):∀ (fuel d:Nat),Region.reachB md ops i fuel d=true→listed.getD d false=true→listed.getD i false=true
  | 0,_,h,_=>by simp [Region.reachB] at h
  | fuel + 1,d,h,hl=>by
    unfold Region.reachB at h
    cases ho:ops[d]? with
    | none=>rw [ho] at h;simp at h
    | some o=>
      rw [ho] at h
      obtain ⟨e,he,h1⟩:=Array.any_eq_true'.1 h
      simp only [Bool.and_eq_true,Bool.or_eq_true,beq_iff_eq] at h1
      have hle:=hc d o ho hl e he h1.1
      rcases h1.2 with h2|h2
      · rw [← h2];exact hle
      · exact Region.reach_listed hc fuel e.on h2 hle
theorem Region.reach_not_ready {listed:Array Bool} {i d fuel:Nat} (hc:ListedClosed md ops listed) (hr:Region.reachB md ops i fuel d=true) (hun:listed.getD i true=false):d ∉ Region.ready md ops listed:=by
  intro hd
  obtain ⟨_,o,ho,hall⟩:=mem_ready.1 hd
  have hi:listed.getD i false=true:=by
    cases fuel with
    | zero=>simp [Region.reachB] at hr
    | succ n=>
      unfold Region.reachB at hr
      rw [ho] at hr
      obtain ⟨e,he,h1⟩:=Array.any_eq_true'.1 hr
      simp only [Bool.and_eq_true,Bool.or_eq_true,beq_iff_eq] at h1
      have hle:=hall e he h1.1
      rcases h1.2 with h2|h2
      · rw [← h2];exact hle
      · exact Region.reach_listed hc n e.on h2 hle
  rcases Nat.lt_or_ge i listed.size with h' | h'
  · simp [h'] at hun hi
    rw [hun] at hi
    cases hi
  · simp [Array.getElem?_eq_none h'] at hun
def wpAnyLast (P:Program) (md:Region.Mode) (ops:Array Oper) (Q:Exit→Act→World→Prop) (S:World→Prop) (ds:List Nat):Nat→Array Bool→Act→World→Prop
  | 0,listed,a,w=>Region.ready md ops listed = []∧Q .normal a w
  | fuel + 1,listed,a,w=>
    (Region.ready md ops listed = []→Q .normal a w)∧
    ∀ i ∈ Region.ready md ops listed,wpOp P ops Q i (fun a' w'=>(i ∉ ds→S w→S w')∧wpAnyLast P md ops Q S ds fuel (listed.setIfInBounds i true) a' w') a w
theorem wpAny_of_last:∀ (fuel:Nat) (listed:Array Bool) (a:Act) (w:World),wpAnyLast P md ops Q S ds fuel listed a w→wpAny P md ops Q fuel listed a w
  | 0,_,_,_,h=>h
  | fuel + 1,_,_,_,h=>⟨h.1,fun i hi=>wpOp_mono (fun a' w' h'=>wpAny_of_last fuel _ a' w' h'.2) (h.2 i hi)⟩
theorem wpAnyLast_first {i:Nat} {oi:Oper} {v:Value} (hi:ops[i]? = some oi) (hsel:∀ (j:Nat) (o:Oper) cs b,ops[j]? = some o→o.op≠.select cs b)
    (hQ:∀ c a w,Q (.panic c) (a.put oi.dst v) w→Q (.panic c) a w) (n:Nat) :
    ∀ (fuel:Nat) (listed:Array Bool) (a:Act) (w:World),
      (∀ j oj,ops[j]? = some oj→j≠i→listed.getD j true=false→(∀ e ∈ oj.after,Region.binds md e=true→e.on≠i)→oi.apart ops oj=true)→
      ListedClosed md ops listed→(∀ d ∈ ds,listed.getD d true=false→Region.reachB md ops i n d=true)→
      i ∈ Region.ready md ops listed→YieldsIf P ops S oi v a→S w→
      wpAnyLast P md ops Q S ds fuel (listed.setIfInBounds i true) (a.put oi.dst v) w→wpAnyLast P md ops Q S ds (fuel + 1) listed a w:=by
  intro fuel
  induction fuel with
  | zero=>
    intro listed a w _ _ _ hr hy hS H
    refine ⟨fun h=>(by rw [h] at hr;cases hr),fun j hj=>?_⟩
    by_cases hji:j=i
    · subst hji;exact hy.wpOp hi hS ⟨fun _ h=>h,H⟩
    · have:=ready_mono hj hji
      rw [H.1] at this
      cases this
  | succ fuel ih=>
    intro listed a w hfree hc hd hr hy hS H
    refine ⟨fun h=>(by rw [h] at hr;cases hr),fun j hj=>?_⟩
    by_cases hji:j=i
    · subst hji;exact hy.wpOp hi hS ⟨fun _ h=>h,H⟩
    · have h1:=H.2 j (ready_mono hj hji)
      obtain ⟨hjun,oj,hoj,hall⟩:=mem_ready.1 hj
      have hiun:=(mem_ready.1 hr).1
      have hnot:∀ e ∈ oj.after,Region.binds md e=true→e.on≠i:=fun e he hb heq=>by
        have h1:=hall e he hb
        rw [heq] at h1
        rcases Nat.lt_or_ge i listed.size with h' | h'
        · simp [h'] at hiun h1;rw [hiun] at h1;cases h1
        · simp [Array.getElem?_eq_none h'] at h1
      have hjd:j ∉ ds:=fun hm=>Region.reach_not_ready hc (hd j hm hjun) hiun hj
      have h2:=wpOp_putIf hoj (hfree j oj hoj hji hjun hnot) (fun cs b=>hsel i oi cs b hi) (fun cs b=>hsel j oj cs b hoj) hQ hy h1
      have hfree':∀ k ok,ops[k]? = some ok→k≠i→(listed.setIfInBounds j true).getD k true=false→
          (∀ e ∈ ok.after,Region.binds md e=true→e.on≠i)→oi.apart ops ok=true:=fun k ok hk hki hun hno=>by
        refine hfree k ok hk hki ?_ hno
        by_cases hjk:j=k
        · subst hjk;exact hjun
        · rw [getD_set_ne true hjk] at hun;exact hun
      have hd':∀ d ∈ ds,(listed.setIfInBounds j true).getD d true=false→Region.reachB md ops i n d=true:=fun d hm hun=>by
        refine hd d hm ?_
        by_cases hjk:j=d
        · subst hjk;exact hjun
        · rw [getD_set_ne true hjk] at hun;exact hun
      refine wpOp_mono (fun a' w' h3=>⟨h3.2.1,ih (listed.setIfInBounds j true) a' w' hfree' (hc.set hj) hd' (ready_mono hr (Ne.symm hji)) h3.1 (h3.2.1 hjd hS) ?_⟩) h2
      rw [Array.setIfInBounds_comm _ _ hji]
      exact h3.2.2
theorem wpAnyLast_any {i:Nat} {oi:Oper} {v:Value} (hi:ops[i]? = some oi) (hsel:∀ (j:Nat) (o:Oper) cs b,ops[j]? = some o→o.op≠.select cs b)
    (hQ:∀ c a w,Q (.panic c) (a.put oi.dst v) w→Q (.panic c) a w) :
    ∀ (fuel:Nat) (listed:Array Bool) (a:Act) (w:World),
      (∀ j oj,ops[j]? = some oj→j≠i→listed.getD j true=false→(∀ e ∈ oj.after,Region.binds md e=true→e.on≠i)→oi.apart ops oj=true)→
      i ∈ Region.ready md ops listed→Yields P ops oi v a→
      wpAnyLast P md ops Q S ds fuel (listed.setIfInBounds i true) (a.put oi.dst v) w→wpAnyLast P md ops Q S ds (fuel + 1) listed a w:=by
  intro fuel
  induction fuel with
  | zero=>
    intro listed a w _ hr hy H
    refine ⟨fun h=>(by rw [h] at hr;cases hr),fun j hj=>?_⟩
    by_cases hji:j=i
    · subst hji;exact (hy.yieldsIf (S:=fun _=>True)).wpOp hi trivial ⟨fun _ h=>h,H⟩
    · have:=ready_mono hj hji
      rw [H.1] at this
      cases this
  | succ fuel ih=>
    intro listed a w hfree hr hy H
    refine ⟨fun h=>(by rw [h] at hr;cases hr),fun j hj=>?_⟩
    by_cases hji:j=i
    · subst hji;exact (hy.yieldsIf (S:=fun _=>True)).wpOp hi trivial ⟨fun _ h=>h,H⟩
    · have h1:=H.2 j (ready_mono hj hji)
      obtain ⟨hjun,oj,hoj,hall⟩:=mem_ready.1 hj
      have hiun:=(mem_ready.1 hr).1
      have hnot:∀ e ∈ oj.after,Region.binds md e=true→e.on≠i:=fun e he hb heq=>by
        have h1:=hall e he hb
        rw [heq] at h1
        rcases Nat.lt_or_ge i listed.size with h' | h'
        · simp [h'] at hiun h1;rw [hiun] at h1;cases h1
        · simp [Array.getElem?_eq_none h'] at h1
      have h2:=wpOp_put hoj (hfree j oj hoj hji hjun hnot) (fun cs b=>hsel i oi cs b hi) (fun cs b=>hsel j oj cs b hoj) hQ hy h1
      have hfree':∀ k ok,ops[k]? = some ok→k≠i→(listed.setIfInBounds j true).getD k true=false→
          (∀ e ∈ ok.after,Region.binds md e=true→e.on≠i)→oi.apart ops ok=true:=fun k ok hk hki hun hno=>by
        refine hfree k ok hk hki ?_ hno
        by_cases hjk:j=k
        · subst hjk;exact hjun
        · rw [getD_set_ne true hjk] at hun;exact hun
      refine wpOp_mono (fun a' w' h3=>⟨h3.2.1,ih (listed.setIfInBounds j true) a' w' hfree' (ready_mono hr (Ne.symm hji)) h3.1 ?_⟩) h2
      rw [Array.setIfInBounds_comm _ _ hji]
      exact h3.2.2
theorem wpAnyLast_take {i:Nat} {oi:Oper} {v:Value} {fuel:Nat} {listed:Array Bool} {a:Act} {w:World} (hi:ops[i]? = some oi)
    (hs:Region.noSelect ops=true) (hf:Region.free md ops listed i=true) (hr:(Region.ready md ops listed).contains i=true)
    (hc:Region.closedB md ops listed=true) (hl:Region.lastB md ops listed ds i=true)
    (hQ:∀ c a w,Q (.panic c) (a.put oi.dst v) w→Q (.panic c) a w) (hy:YieldsIf P ops S oi v a) (hS:S w)
    (h:wpAnyLast P md ops Q S ds fuel (listed.setIfInBounds i true) (a.put oi.dst v) w):wpAnyLast P md ops Q S ds (fuel + 1) listed a w:=
  wpAnyLast_first hi (Region.noSelect_spec hs) hQ ops.size fuel listed a w (Region.free_spec hi hf) (Region.closedB_spec hc)
    (fun d hm hun=>by have:=List.all_eq_true.1 hl d hm;rw [hun] at this;simpa using this) (by simpa using hr) hy hS h
theorem wpAnyLast_all {rs:List Nat} {fuel:Nat} {listed:Array Bool} {a:Act} {w:World} (hr:Region.ready md ops listed=rs) (hne:rs≠[])
    (h:∀ i ∈ rs,wpOp P ops Q i (fun a' w'=>(i ∉ ds→S w→S w')∧wpAnyLast P md ops Q S ds fuel (listed.setIfInBounds i true) a' w') a w):wpAnyLast P md ops Q S ds (fuel + 1) listed a w:=
  ⟨fun h0=>absurd (hr ▸ h0) hne,hr ▸ h⟩
theorem wpAnyLast_done {listed:Array Bool} {a:Act} {w:World} (hr:Region.ready md ops listed = []) (h:Q .normal a w) :
    ∀ fuel,wpAnyLast P md ops Q S ds fuel listed a w
  | 0=>⟨hr,h⟩
  | _ + 1=>⟨fun _=>h,by rw [hr];simp⟩
theorem wp_region_last {id:Nat} {a:Act} {w:World} (hm:P.follows .mixedOrders=true)
    (h:wpAnyLast P .any ops Q S ds ops.size (Array.replicate ops.size false) a { w with drawn:=w.drawn + 1 }):(Code.region id ops true).wp P Q a w:=
  wp_region_any hm (wpAny_of_last _ _ _ _ h)
end
section
variable {P:Program} {ops:Array Oper} {Q:Exit→Act→World→Prop} {md:Region.Mode} {S:World→Prop} {ds:List Nat}
def AllReadyL (P:Program) (md:Region.Mode) (ops:Array Oper) (Q:Exit→Act→World→Prop) (S:World→Prop) (ds:List Nat) (fuel:Nat) (listed:Array Bool) (a:Act) (w:World) (rs:List Nat):Prop:=
  ∀ i ∈ rs,wpOp P ops Q i (fun a' w'=>(i ∉ ds→S w→S w')∧wpAnyLast P md ops Q S ds fuel (listed.setIfInBounds i true) a' w') a w
theorem AllReadyL.nil {fuel:Nat} {listed:Array Bool} {a:Act} {w:World} : AllReadyL P md ops Q S ds fuel listed a w []:=fun _ h=>by cases h
theorem AllReadyL.cons {fuel:Nat} {listed:Array Bool} {a:Act} {w:World} {i:Nat} {o:Oper} {rs:List Nat} (ho:ops[i]? = some o) (hd:i ∉ ds)
    (h:∀ K':Act→World→Prop,Shut (∀ a w,S w→(S w→wpAnyLast P md ops Q S ds fuel (listed.setIfInBounds i true) a w)→K' a w)→if Region.wanted o (yielded ops a.tmps)=true then Oper.wp P o a w K' Q else K' (a.put o.dst undef) w)
    (hs:AllReadyL P md ops Q S ds fuel listed a w rs):AllReadyL P md ops Q S ds fuel listed a w (i :: rs):=fun j hj=>by
  rcases List.mem_cons.1 hj with rfl|hj
  · exact wpOp_step ho (fun K' hK=>h K' (fun a w hS hW=>hK a w ⟨fun _ _=>hS,hW hS⟩))
  · exact hs j hj
theorem AllReadyL.cons_last {fuel:Nat} {listed:Array Bool} {a:Act} {w:World} {i:Nat} {o:Oper} {rs:List Nat} (ho:ops[i]? = some o) (hd:i ∈ ds)
    (h:∀ K':Act→World→Prop,Shut (∀ a w,wpAnyLast P md ops Q S ds fuel (listed.setIfInBounds i true) a w→K' a w)→if Region.wanted o (yielded ops a.tmps)=true then Oper.wp P o a w K' Q else K' (a.put o.dst undef) w)
    (hs:AllReadyL P md ops Q S ds fuel listed a w rs):AllReadyL P md ops Q S ds fuel listed a w (i :: rs):=fun j hj=>by
  rcases List.mem_cons.1 hj with rfl|hj
  · exact wpOp_step ho (fun K' hK=>h K' (fun a w hW=>hK a w ⟨fun hn=>absurd hd hn,hW⟩))
  · exact hs j hj
theorem wpAnyLast_ready {rs:List Nat} {fuel:Nat} {listed:Array Bool} {a:Act} {w:World} (hr:Region.ready md ops listed=rs) (hne:rs≠[])
    (h:AllReadyL P md ops Q S ds fuel listed a w rs):wpAnyLast P md ops Q S ds (fuel + 1) listed a w:=wpAnyLast_all hr hne h
theorem start_ {id n:Nat} {a:Act} {w:World} (l:Array Bool) (hm:P.follows .mixedOrders=true) (hn:ops.size=n) (hl:Array.replicate n false=l) (hS:S w.drew)
    (h:S w.drew→wpAnyLast P .any ops Q S ds n l a w.drew):(Code.region id ops true).wp P Q a w:=by
  subst hn
  subst hl
  exact wp_region_last hm (h hS)
def takeB (md:Region.Mode) (ops:Array Oper) (ds:List Nat) (l l':Array Bool) (i:Nat):Bool:=
  Region.noSelect ops && Region.free md ops l i && (Region.ready md ops l).contains i && Region.closedB md ops l && Region.lastB md ops l ds i && (l.setIfInBounds i true == l')
theorem take_ {i:Nat} {N:Option Tmp} {oi:Oper} {v:Value} {fuel:Nat} {l:Array Bool} {a:Act} {w:World} (l':Array Bool) (hi:ops[i]? = some oi) (hN:oi.dst=N) (hc:takeB md ops ds l l' i=true)
    (hQ:∀ c a w,Q (.panic c) (a.put oi.dst v) w→Q (.panic c) a w) (hy:YieldsIf P ops S oi v a) (hS:S w) {a':Act} (ha:a.put N v=a')
    (h:wpAnyLast P md ops Q S ds fuel l' a' w):wpAnyLast P md ops Q S ds (fuel + 1) l a w:=by
  subst ha
  subst hN
  simp only [takeB,Bool.and_eq_true,beq_iff_eq] at hc
  obtain ⟨⟨⟨⟨⟨h1,h2⟩,h3⟩,h4⟩,h5⟩,h6⟩:=hc
  subst h6
  exact wpAnyLast_take hi h1 h2 h3 h4 h5 hQ hy hS h
def anyB (md:Region.Mode) (ops:Array Oper) (l l':Array Bool) (i:Nat):Bool:=
  Region.noSelect ops && Region.free md ops l i && (Region.ready md ops l).contains i && (l.setIfInBounds i true == l')
theorem pure_ {i:Nat} {N:Option Tmp} {oi:Oper} {v:Value} {fuel:Nat} {l:Array Bool} {a:Act} {w:World} (l':Array Bool) (hi:ops[i]? = some oi) (hN:oi.dst=N) (hc:anyB md ops l l' i=true)
    (hQ:∀ c a w,Q (.panic c) (a.put oi.dst v) w→Q (.panic c) a w) (hy:Yields P ops oi v a) {a':Act} (ha:a.put N v=a')
    (h:wpAnyLast P md ops Q S ds fuel l' a' w):wpAnyLast P md ops Q S ds (fuel + 1) l a w:=by
  subst ha
  subst hN
  simp only [anyB,Bool.and_eq_true,beq_iff_eq] at hc
  obtain ⟨⟨⟨h1,h2⟩,h3⟩,h6⟩:=hc
  subst h6
  exact wpAnyLast_any hi (Region.noSelect_spec h1) hQ fuel l a w (Region.free_spec hi h2) (by simpa using h3) hy h
def readyB (md:Region.Mode) (ops:Array Oper) (l l':Array Bool) (i:Nat):Bool:=(Region.ready md ops l == [i]) && (l.setIfInBounds i true == l')
theorem one_ {i:Nat} {N:Option Tmp} {oi:Oper} {fuel:Nat} {l:Array Bool} {a:Act} {w:World} (l':Array Bool) (hi:ops[i]? = some oi) (hN:oi.dst=N) (hc:readyB md ops l l' i=true) (hd:i ∉ ds)
    (h:∀ K:Act→World→Prop,Shut (∀ a' w',S w'→(S w'→wpAnyLast P md ops Q S ds fuel l' a' w')→K a' w')→if Region.wanted oi (yielded ops a.tmps)=true then Oper.wp P oi a w K Q else K (a.put N undef) w) :
    wpAnyLast P md ops Q S ds (fuel + 1) l a w:=by
  subst hN
  simp only [readyB,Bool.and_eq_true,beq_iff_eq] at hc
  obtain ⟨h1,h2⟩:=hc
  subst h2
  exact wpAnyLast_ready h1 (by simp) (AllReadyL.cons hi hd (fun K hK=>h K hK) AllReadyL.nil)
theorem last_ {i:Nat} {N:Option Tmp} {oi:Oper} {fuel:Nat} {l:Array Bool} {a:Act} {w:World} (l':Array Bool) (hi:ops[i]? = some oi) (hN:oi.dst=N) (hc:readyB md ops l l' i=true) (hd:i ∈ ds)
    (h:∀ K:Act→World→Prop,Shut (∀ a' w',wpAnyLast P md ops Q S ds fuel l' a' w'→K a' w')→if Region.wanted oi (yielded ops a.tmps)=true then Oper.wp P oi a w K Q else K (a.put N undef) w) :
    wpAnyLast P md ops Q S ds (fuel + 1) l a w:=by
  subst hN
  simp only [readyB,Bool.and_eq_true,beq_iff_eq] at hc
  obtain ⟨h1,h2⟩:=hc
  subst h2
  exact wpAnyLast_ready h1 (by simp) (AllReadyL.cons_last hi hd (fun K hK=>h K hK) AllReadyL.nil)
theorem done_ {l:Array Bool} {a:Act} {w:World} {n:Nat} (hr:(Region.ready md ops l == [])=true) (h:Q .normal a w):wpAnyLast P md ops Q S ds n l a w:=wpAnyLast_done (by simpa using hr) h n
theorem two_ {i j:Nat} {Ni Nj:Option Tmp} {oi oj:Oper} {fuel:Nat} {l:Array Bool} {a:Act} {w:World} (li lj:Array Bool) (hi:ops[i]? = some oi) (hj:ops[j]? = some oj) (hNi:oi.dst=Ni) (hNj:oj.dst=Nj)
    (hc:(Region.ready md ops l == [i,j] && l.setIfInBounds i true == li && l.setIfInBounds j true == lj)=true) (hdi:i ∉ ds) (hdj:j ∉ ds)
    (h1:∀ K:Act→World→Prop,Shut (∀ a' w',S w'→(S w'→wpAnyLast P md ops Q S ds fuel li a' w')→K a' w')→if Region.wanted oi (yielded ops a.tmps)=true then Oper.wp P oi a w K Q else K (a.put Ni undef) w)
    (h2:∀ K:Act→World→Prop,Shut (∀ a' w',S w'→(S w'→wpAnyLast P md ops Q S ds fuel lj a' w')→K a' w')→if Region.wanted oj (yielded ops a.tmps)=true then Oper.wp P oj a w K Q else K (a.put Nj undef) w) :
    wpAnyLast P md ops Q S ds (fuel + 1) l a w:=by
  subst hNi
  subst hNj
  simp only [Bool.and_eq_true,beq_iff_eq] at hc
  obtain ⟨⟨h3,h4⟩,h5⟩:=hc
  subst h4
  subst h5
  exact wpAnyLast_ready h3 (by simp) (AllReadyL.cons hi hdi (fun K hK=>h1 K hK) (AllReadyL.cons hj hdj (fun K hK=>h2 K hK) AllReadyL.nil))
def putAll:Act→List (Tmp × Value)→Act
  | a,[]=>a
  | a,(n,v) :: r=>putAll (a.put (some n) v) r
theorem join_ {σ:Type} {fuel:Nat} {l:Array Bool} {a:Act} {w:World} (fuel':Nat) (l':Array Bool) (ns:σ→List (Tmp × Value)) (F:σ→World→Prop)
    (hcont:∀ s w',F s w'→wpAnyLast P md ops Q S ds fuel' l' (putAll a (ns s)) w')
    (h:(∀ s w',F s w'→wpAnyLast P md ops Q S ds fuel' l' (putAll a (ns s)) w')→wpAnyLast P md ops Q S ds fuel l a w):wpAnyLast P md ops Q S ds fuel l a w:=h hcont
theorem norm_ {fuel:Nat} {l:Array Bool} {a a':Act} {w:World} (ha:a=a') (h:wpAnyLast P md ops Q S ds fuel l a' w):wpAnyLast P md ops Q S ds fuel l a w:=by
  subst ha
  exact h
theorem call_ {oi:Oper} {N:Option Tmp} {a:Act} {w:World} {K:Act→World→Prop} (f:FuncId) (args:Array Value) (hw:Region.wanted oi (yielded ops a.tmps)=true) (hN:oi.dst=N) (hrun:(execOp a.eval oi).run P w = .ok (.enter f args) w)
    (h:Calls P f args w fun e w'=>∃ v,e = .returned v∧K (a.put N v) w'):if Region.wanted oi (yielded ops a.tmps)=true then Oper.wp P oi a w K Q else K (a.put N undef) w:=by
  rw [if_pos hw]
  subst hN
  unfold Oper.wp
  rw [hrun,Oper.upon_enter]
  refine h.mono fun e w'' hh=>?_
  obtain ⟨v,rfl,hk⟩:=hh
  exact hk
theorem enters_ {f:FuncId} {fn:Func} (hf:P.funcs[f]? = some fn) (hname:(fn.name == "runtime.NumGoroutine")=false) (hb:fn.body.isSome=true) (args:Array Value) (w:World):(callFunc f args).run P w = .ok (.enter f args) w:=by
  have h1:fn.name≠"runtime.NumGoroutine":=by simpa using hname
  obtain ⟨c,hc⟩:=Option.isSome_iff_exists.1 hb
  simp [callFunc,hf,h1,hc]
theorem goes_ {oi:Oper} {N:Option Tmp} {a:Act} {w:World} {K:Act→World→Prop} {f:FuncId} {fn:Func} {a_s:Array Operand} {ts:Array TypeId} (hf:P.funcs[f]? = some fn) (hname:(fn.name == "runtime.NumGoroutine")=false) (hb:fn.body.isSome=true) (args:Array Value)
    (hw:Region.wanted oi (yielded ops a.tmps)=true) (hN:oi.dst=N) (hop:oi.op = .call { callee:=.value (.func f),args:=a_s,argTypes:=ts }) (hargs:a_s.map a.eval=args)
    (h:Calls P f args w fun e w'=>∃ v,e = .returned v∧K (a.put N v) w'):if Region.wanted oi (yielded ops a.tmps)=true then Oper.wp P oi a w K Q else K (a.put N undef) w:=by
  refine call_ f args hw hN ?_ h
  have he:=enters_ hf hname hb args w
  unfold execOp
  simp [hop,resolve,Deferred.ofValue,invoke,Act.eval,hargs,he]
theorem goesL_ {rest:List Oper} {oi:Oper} {a:Act} {w:World} (N:Option Tmp) (hd:oi.dst=N) (hg:oi.guard=none) {f:FuncId} {fn:Func} {a_s:Array Operand} {ts:Array TypeId} (hf:P.funcs[f]? = some fn) (hname:(fn.name == "runtime.NumGoroutine")=false) (hb:fn.body.isSome=true) (args:Array Value)
    (hop:oi.op = .call { callee:=.value (.func f),args:=a_s,argTypes:=ts }) (hargs:a_s.map a.eval=args)
    (h:Calls P f args w fun e w'=>∃ v,e = .returned v∧wpList P ops Q rest (a.put N v) w'):wpList P ops Q (oi :: rest) a w:=by
  refine wpList_plain hg fun K hK=>?_
  have he:=enters_ hf hname hb args w
  have hrun:(execOp a.eval oi).run P w = .ok (.enter f args) w:=by
    unfold execOp
    simp [hop,resolve,Deferred.ofValue,invoke,Act.eval,hargs,he]
  unfold Oper.wp
  rw [hrun,Oper.upon_enter]
  refine h.mono fun e w'' hh=>?_
  obtain ⟨v,rfl,hk⟩:=hh
  subst hd
  exact hK _ _ hk
theorem value_ {oi:Oper} {N:Option Tmp} {a:Act} {w w1:World} {v:Value} {K:Act→World→Prop} (hw:Region.wanted oi (yielded ops a.tmps)=true) (hN:oi.dst=N) (hrun:(execOp a.eval oi).run P w = .ok (.value v) w1)
    (h:K (a.put N v) w1):if Region.wanted oi (yielded ops a.tmps)=true then Oper.wp P oi a w K Q else K (a.put N undef) w:=by
  rw [if_pos hw]
  subst hN
  unfold Oper.wp
  rw [hrun]
  exact h
theorem skip_ {oi:Oper} {a:Act} {w w1:World} {K:Act→World→Prop} (hw:Region.wanted oi (yielded ops a.tmps)=true) (hN:oi.dst=none) (hrun:(execOp a.eval oi).run P w = .ok .skip w1)
    (h:K a w1):if Region.wanted oi (yielded ops a.tmps)=true then Oper.wp P oi a w K Q else K (a.put none undef) w:=by
  rw [if_pos hw]
  unfold Oper.wp
  rw [hrun]
  show K (a.put oi.dst undef) w1
  rw [hN]
  exact h
theorem i64_w (n:Int):IntKind.i64.wrap n=Go.RowKit.wrap64 n:=by unfold Go.RowKit.wrap64;exact IntKind.wrap_i64 n
theorem i32_w (n:Int):IntKind.i32.wrap n=Go.RowKit.wrap32 n:=by unfold Go.RowKit.wrap32;exact IntKind.wrap_i32 n
end
end Go.Proofs.YtnkpakakgfkpbaaW.PrintLast
end
section
namespace Go.Proofs.YtnkpakakgfkpbaaW.PrintLast
open Go.Proofs.YtnkpakakgfkpbaaW.PrintWords (Aside0)
def needsOf (md:Region.Mode) (o:Oper):List Nat:=(o.after.toList.filter (fun e=>Region.binds md e)).map (fun e=>e.on)
def clashOf (md:Region.Mode) (ops:Array Oper) (i:Nat) (oi:Oper):List Nat:=(List.range ops.size).filter fun j=>!(j == i) && match ops[j]? with
  | some oj=>!(oj.after.any (fun e=>Region.binds md e && e.on == i) || oi.apart ops oj)
  | none=>false
def rtab (md:Region.Mode) (ops:Array Oper):Bool × List (List Nat × List Nat):=(Region.noSelect ops,(List.range ops.size).map fun i=>match ops[i]? with
  | some o=>(needsOf md o,clashOf md ops i o)
  | none=>([],[]))
def readyAt (T:List (List Nat × List Nat)) (l:List Bool) (i:Nat):Bool:=!l.getD i true && match T[i]? with
  | some r=>r.1.all (fun j=>l.getD j false)
  | none=>false
def readyT (T:List (List Nat × List Nat)) (l:List Bool):List Nat:=(List.range T.length).filter (readyAt T l)
def freeT (T:List (List Nat × List Nat)) (l:List Bool) (i:Nat):Bool:=match T[i]? with
  | some r=>r.2.all (fun j=>l.getD j true)
  | none=>false
def closedT (T:List (List Nat × List Nat)) (l:List Bool):Bool:=(List.range T.length).all fun j=>!l.getD j false || match T[j]? with
  | some r=>r.1.all (fun k=>l.getD k false)
  | none=>true
def reachT (T:List (List Nat × List Nat)) (i:Nat):Nat→Nat→Bool
  | 0,_=>false
  | fuel + 1,d=>match T[d]? with
    | some r=>r.1.any fun j=>j == i || reachT T i fuel j
    | none=>false
def lastT (T:List (List Nat × List Nat)) (l:List Bool) (ds:List Nat) (i:Nat):Bool:=ds.all fun d=>l.getD d true || reachT T i T.length d
section
variable {md:Region.Mode} {ops:Array Oper} {T:Bool × List (List Nat × List Nat)} {l l' li lj lk:Array Bool} {ds:List Nat} {i j k:Nat}
theorem gd (l:Array Bool) (j:Nat) (b:Bool):l.getD j b=l.toList.getD j b:=by simp [Array.getD_eq_getD_getElem?,List.getD_eq_getElem?_getD]
theorem needs_all (o:Oper) (p:Nat→Bool):o.after.all (fun e=>!Region.binds md e || p e.on)=(needsOf md o).all p:=by
  unfold needsOf
  rw [← Array.all_toList]
  induction o.after.toList with
  | nil=>rfl
  | cons e r ih=>
    rw [List.all_cons,ih,List.filter_cons]
    cases h:Region.binds md e <;> simp
theorem needs_any (o:Oper) (p:Nat→Bool):o.after.any (fun e=>Region.binds md e && p e.on)=(needsOf md o).any p:=by
  unfold needsOf
  rw [← Array.any_toList]
  induction o.after.toList with
  | nil=>rfl
  | cons e r ih=>
    rw [List.any_cons,ih,List.filter_cons]
    cases h:Region.binds md e <;> simp
theorem rtab_length:(rtab md ops).2.length=ops.size:=by simp [rtab]
theorem rtab_some {o:Oper} (h:ops[i]? = some o):(rtab md ops).2[i]? = some (needsOf md o,clashOf md ops i o):=by
  have hi:=(Array.getElem?_eq_some_iff.1 h).1
  unfold rtab
  rw [List.getElem?_map,List.getElem?_range hi,Option.map_some,h]
theorem rtab_none (h:ops[i]? = none):(rtab md ops).2[i]? = none:=by
  have hi:ops.size≤i:=Array.getElem?_eq_none_iff.1 h
  exact List.getElem?_eq_none (by rw [rtab_length];exact hi)
theorem readyAt_eq:readyAt (rtab md ops).2 l.toList i=(!l.getD i true && ((ops[i]?).map (·.after.all fun e=>!Region.binds md e || l.getD e.on false)).getD false):=by
  unfold readyAt
  rw [gd]
  cases h:ops[i]? with
  | none=>rw [rtab_none h];rfl
  | some o=>
    rw [rtab_some h]
    simp only [Option.map_some,Option.getD_some]
    rw [← needs_all]
    simp only [gd]
theorem ready_eq:Region.ready md ops l=readyT (rtab md ops).2 l.toList:=by
  unfold Region.ready readyT
  rw [rtab_length]
  refine List.filter_congr (fun i _=>?_)
  rw [readyAt_eq]
theorem free_eq:Region.free md ops l i=freeT (rtab md ops).2 l.toList i:=by
  unfold Region.free freeT
  cases h:ops[i]? with
  | none=>rw [rtab_none h]
  | some oi=>
    rw [rtab_some h]
    simp only [clashOf]
    rw [List.all_filter]
    congr 1
    funext j
    rw [gd]
    cases hj:ops[j]? with
    | none=>cases (j == i) <;> cases (l.toList.getD j true) <;> simp
    | some oj=>
      cases (j == i) <;> cases (l.toList.getD j true) <;> cases (oj.after.any (fun e=>Region.binds md e && e.on == i) || oi.apart ops oj) <;> simp_all
theorem closed_eq:Region.closedB md ops l=closedT (rtab md ops).2 l.toList:=by
  unfold Region.closedB closedT
  rw [rtab_length]
  congr 1
  funext j
  rw [gd]
  cases h:ops[j]? with
  | none=>rw [rtab_none h]
  | some o=>
    rw [rtab_some h]
    simp only
    rw [← needs_all]
    simp only [gd]
theorem reach_eq:∀ (fuel d:Nat),Region.reachB md ops i fuel d=reachT (rtab md ops).2 i fuel d
  | 0,_=>rfl
  | fuel + 1,d=>by
    unfold Region.reachB reachT
    cases h:ops[d]? with
    | none=>rw [rtab_none h]
    | some o=>
      rw [rtab_some h]
      simp only
      rw [← needs_any]
      congr 1
      funext e
      rw [reach_eq fuel]
theorem last_eq:Region.lastB md ops l ds i=lastT (rtab md ops).2 l.toList ds i:=by
  unfold Region.lastB lastT
  rw [rtab_length]
  congr 1
  funext d
  rw [gd,reach_eq]
theorem readyAt_mem (h:readyAt T.2 l.toList i=true) (hT:rtab md ops=T):(Region.ready md ops l).contains i=true:=by
  subst hT
  rw [ready_eq]
  unfold readyT
  rw [List.contains_iff_mem,List.mem_filter,List.mem_range]
  refine ⟨?_,h⟩
  unfold readyAt at h
  rw [Bool.and_eq_true] at h
  cases hq:(rtab md ops).2[i]? with
  | none=>rw [hq] at h;simp at h
  | some r=>exact (List.getElem?_eq_some_iff.1 hq).1
theorem set_of (h:(l.toList.set i true == l'.toList)=true):(l.setIfInBounds i true == l')=true:=by
  rw [beq_iff_eq] at h ⊢
  apply Array.ext'
  rw [Array.toList_setIfInBounds]
  exact h
def anyT (T:Bool × List (List Nat × List Nat)) (l l':List Bool) (i:Nat):Bool:=T.1 && freeT T.2 l i && readyAt T.2 l i && (l.set i true == l')
theorem any_of (hT:rtab md ops=T) (h:anyT T l.toList l'.toList i=true):anyB md ops l l' i=true:=by
  simp only [anyT,Bool.and_eq_true] at h
  obtain ⟨⟨⟨h1,h2⟩,h3⟩,h4⟩:=h
  have h5:=readyAt_mem h3 hT
  have h6:=set_of h4
  subst hT
  simp only [anyB,Bool.and_eq_true]
  exact ⟨⟨⟨h1,by rw [free_eq];exact h2⟩,h5⟩,h6⟩
def takeT (T:Bool × List (List Nat × List Nat)) (ds:List Nat) (l l':List Bool) (i:Nat):Bool:=T.1 && freeT T.2 l i && readyAt T.2 l i && closedT T.2 l && lastT T.2 l ds i && (l.set i true == l')
theorem take_of (hT:rtab md ops=T) (h:takeT T ds l.toList l'.toList i=true):takeB md ops ds l l' i=true:=by
  simp only [takeT,Bool.and_eq_true] at h
  obtain ⟨⟨⟨⟨⟨h1,h2⟩,h3⟩,h4⟩,h5⟩,h6⟩:=h
  have h7:=readyAt_mem h3 hT
  have h8:=set_of h6
  subst hT
  simp only [takeB,Bool.and_eq_true]
  exact ⟨⟨⟨⟨⟨h1,by rw [free_eq];exact h2⟩,h7⟩,by rw [closed_eq];exact h4⟩,by rw [last_eq];exact h5⟩,h8⟩
theorem one_of (hT:rtab md ops=T) (h:(readyT T.2 l.toList == [i] && l.toList.set i true == l'.toList)=true):readyB md ops l l' i=true:=by
  simp only [Bool.and_eq_true] at h
  obtain ⟨h1,h2⟩:=h
  subst hT
  simp only [readyB,Bool.and_eq_true]
  exact ⟨by rw [ready_eq];exact h1,set_of h2⟩
theorem two_of (hT:rtab md ops=T) (h:(readyT T.2 l.toList == [i,j] && l.toList.set i true == li.toList && l.toList.set j true == lj.toList)=true):(Region.ready md ops l == [i,j] && l.setIfInBounds i true == li && l.setIfInBounds j true == lj)=true:=by
  simp only [Bool.and_eq_true] at h ⊢
  obtain ⟨⟨h1,h2⟩,h3⟩:=h
  subst hT
  exact ⟨⟨by rw [ready_eq];exact h1,set_of h2⟩,set_of h3⟩
theorem done_of (hT:rtab md ops=T) (h:(readyT T.2 l.toList == [])=true):(Region.ready md ops l == [])=true:=by
  subst hT
  rw [ready_eq]
  exact h
def upM (B:List Nat) (d:Nat):List Nat→Nat
  | []=>0
  | n :: r=>(2 ^ n ||| (if n < d then B.getD n 0 else 0)) ||| upM B d r
def waitsOk (T:List (List Nat × List Nat)) (B:List Nat):Bool:=(List.range T.length).all fun d=>match T[d]? with
  | some r=>(B.getD d 0 ||| upM B d r.1) == upM B d r.1
  | none=>false
theorem upM_bit {B:List Nat} {d i:Nat} : ∀ {ns:List Nat},(upM B d ns).testBit i=true→∃ n ∈ ns,n=i∨(n < d∧(B.getD n 0).testBit i=true)
  | [],h=>by simp [upM] at h
  | n :: r,h=>by
    unfold upM at h
    rw [Nat.testBit_or,Nat.testBit_or,Bool.or_eq_true,Bool.or_eq_true] at h
    rcases h with (h|h)|h
    · rw [Nat.testBit_two_pow] at h
      exact ⟨n,List.mem_cons_self,.inl (by simpa using h)⟩
    · by_cases hn:n < d
      · rw [if_pos hn] at h
        exact ⟨n,List.mem_cons_self,.inr ⟨hn,h⟩⟩
      · rw [if_neg hn] at h
        simp at h
    · obtain ⟨m,hm,h2⟩:=upM_bit h
      exact ⟨m,List.mem_cons_of_mem _ hm,h2⟩
theorem reach_bit {T:List (List Nat × List Nat)} {B:List Nat} (hB:waitsOk T B=true):∀ (fuel d:Nat),d < fuel→d < T.length→(B.getD d 0).testBit i=true→reachT T i fuel d=true
  | 0,d,h,_,_=>by omega
  | fuel + 1,d,h,hd,hb=>by
    have h1:=List.all_eq_true.1 hB d (List.mem_range.2 hd)
    cases hr:T[d]? with
    | none=>rw [hr] at h1;simp at h1
    | some r=>
      rw [hr] at h1
      simp only [beq_iff_eq] at h1
      have h2:(upM B d r.1).testBit i=true:=by rw [← h1,Nat.testBit_or,hb,Bool.true_or]
      obtain ⟨n,hn,h3⟩:=upM_bit h2
      unfold reachT
      rw [hr]
      simp only
      rw [List.any_eq_true]
      refine ⟨n,hn,?_⟩
      rcases h3 with rfl|⟨h4,h5⟩
      · simp
      · rw [reach_bit hB fuel n (by omega) (by omega) h5,Bool.or_true]
def lastW (T:List (List Nat × List Nat)) (B:List Nat) (l:List Bool) (ds:List Nat) (i:Nat):Bool:=ds.all fun d=>l.getD d true || (decide (d < T.length) && (B.getD d 0).testBit i)
def takeW (T:Bool × List (List Nat × List Nat)) (B:List Nat) (ds:List Nat) (l l':List Bool) (i:Nat):Bool:=T.1 && freeT T.2 l i && readyAt T.2 l i && closedT T.2 l && lastW T.2 B l ds i && (l.set i true == l')
theorem take_ofW {B:List Nat} (hT:rtab md ops=T) (hB:waitsOk T.2 B=true) (h:takeW T B ds l.toList l'.toList i=true):takeB md ops ds l l' i=true:=by
  refine take_of hT ?_
  simp only [takeW,takeT,Bool.and_eq_true] at h ⊢
  obtain ⟨⟨⟨⟨⟨h1,h2⟩,h3⟩,h4⟩,h5⟩,h6⟩:=h
  refine ⟨⟨⟨⟨⟨h1,h2⟩,h3⟩,h4⟩,?_⟩,h6⟩
  unfold lastW at h5
  unfold lastT
  rw [List.all_eq_true] at h5 ⊢
  intro d hd
  have h7:=h5 d hd
  rw [Bool.or_eq_true,Bool.and_eq_true,decide_eq_true_eq] at h7
  rcases h7 with h7|⟨h8,h9⟩
  · rw [h7,Bool.true_or]
  · rw [reach_bit hB _ d h8 h8 h9,Bool.or_true]
theorem with_tabW {P:Program} {Q:Exit→Act→World→Prop} {S:World→Prop} {n:Nat} {a:Act} {w:World} {B:List Nat} (hT:rtab md ops=T) (hB:waitsOk T.2 B=true) (h:Aside0 (rtab md ops=T)→Aside0 (waitsOk T.2 B=true)→wpAnyLast P md ops Q S ds n l a w):wpAnyLast P md ops Q S ds n l a w:=h ⟨hT⟩ ⟨hB⟩
end
def opsIn:Code→Nat→Option (Array Oper)
  | .region id ops _,k=>if id == k then some ops else none
  | .seq a b,k=>match opsIn a k with
    | some o=>some o
    | none=>opsIn b k
  | .cond _ a b,k=>match opsIn a k with
    | some o=>some o
    | none=>opsIn b k
  | .block _ c,k=>opsIn c k
  | .loop c,k=>opsIn c k
  | .scope c,k=>opsIn c k
  | .rangeFunc _ _ a b,k=>match opsIn a k with
    | some o=>some o
    | none=>opsIn b k
  | _,_=>none
def opsOf (f:Func) (k:Nat):Array Oper:=((f.body.bind fun c=>opsIn c k)).getD #[]
end Go.Proofs.YtnkpakakgfkpbaaW.PrintLast
end
section
namespace Go.Proofs.YtnkpakakgfkpbaaW.PrintLast
section
variable {P:Program} {ops:Array Oper} {Q:Exit→Act→World→Prop} {md:Region.Mode} {S:World→Prop} {ds:List Nat} {T:Bool × List (List Nat × List Nat)}
end
end Go.Proofs.YtnkpakakgfkpbaaW.PrintLast
end
section
namespace Go.Proofs.YtnkpakakgfkpbaaW.PrintWords
open Go.RowKit
namespace Kd
section
variable {α:Type} {d:Kd α} {e base g o n cap:Nat} {ok okp:Nat→Prop} {w W:World} {v:Value} {xs:List α}
end
section
variable {α:Type} {enc:α→Value} {h1:∀ x,(enc x).oneCell'=true} {e base g o n cap:Nat} {ok:Nat→Prop} {W:World} {xs:List α}
end
end Kd
end Go.Proofs.YtnkpakakgfkpbaaW.PrintWords

end
section
namespace Go.Proofs.YtnkpakakgfkpbaaW.PrintWords
open Go.RowKit
namespace Kd
def tag {α:Type} (f:Nat→Nat) (d:Kd α):Kd (α × Nat) where
  sz:=d.sz
  E:=d.E
  K:=fun w x cs=>d.K w x.1 cs
  M:=fun w base ok x cs=>d.M w base (fun k=>ok k∧f k=x.2) x.1 cs
  K_len:=fun h=>d.K_len h
  K_one:=fun h=>d.K_one h
  K_below:=fun hb h=>d.K_below hb h
  K_of_M:=fun h=>d.K_of_M h
  M_mono:=fun hok h=>d.M_mono (fun k hk=>⟨hok k hk.1,hk.2⟩) h
  M_bound:=fun h=>d.M_mono (fun _ hk=>⟨⟨hk.1.1,hk.2⟩,hk.1.2⟩) (d.M_bound h)
  M_move:=fun hm h=>d.M_move (fun k hk=>hm k hk.1) h
  M_lower:=fun hb h=>d.M_lower hb h
def raw (sz:Nat):Kd (List Value) where
  sz:=sz
  E:=[]
  K:=fun _ x cs=>cs=x∧cs.length=sz∧∀ u ∈ cs,u.oneCell'=true
  M:=fun _ _ _ x cs=>cs=x∧cs.length=sz∧∀ u ∈ cs,u.oneCell'=true
  K_len:=fun h=>h.2.1
  K_one:=fun h=>h.2.2
  K_below:=fun _ h=>h
  K_of_M:=fun h=>h
  M_mono:=fun _ h=>h
  M_bound:=fun h=>h
  M_move:=fun _ h=>h
  M_lower:=fun _ h=>h
def S {α:Type} (d:Kd α) (e:Nat) (w:World) (base:Nat) (ok:Nat→Prop) (v:Value) (xs:List α):Prop:=∃ f,(tag f d).R e w base ok v xs.zipIdx
section
variable {α β:Type} {d:Kd α} {d':Kd β} {e e':Nat} {w w1 W:World} {base b:Nat} {ok ok' okv oku:Nat→Prop} {u v:Value} {xs:List α} {ys:List β}
theorem R_tight (hE:d.E = []) (h:d.R e w base ok v xs):d.R e w base (fun k=>some k=v.ownBlock) v xs:=by
  obtain ⟨h0,inner,ho,hr⟩:=h
  refine ⟨fun k hk=>hk.symm,inner,ho,hr.imp_ (fun p c hp=>d.M_mono (fun k hk=>?_) (d.M_bound hp))⟩
  obtain ⟨_,_,_,q,hq,_⟩:=hk
  rw [hE] at hq
  cases hq
end
section
variable {α β:Type} {d:Kd α} {d':Kd β} {e e' g:Nat} {w w1 W:World} {base b:Nat} {ok ok' okv oku:Nat→Prop} {u v:Value} {xs:List α} {ys:List β}
end
section
variable {P:Program} {ops:Array Oper} {rest:List Oper} {o:Oper} {a:Act} {Q:Exit→Act→World→Prop} {Kc:Act→World→Prop} {α:Type}
end
section
variable {α β:Type} {d:Kd α} {e e' g n cap:Nat} {w w1 W:World} {base:Nat} {ok ok' oki okp:Nat→Prop} {u v:Value} {xs:List α} {i:Int} {c:List Value}
end
section
variable {P:Program} {ops:Array Oper} {rest:List Oper} {o:Oper} {a:Act} {Q:Exit→Act→World→Prop} {α:Type}
end
end Kd
end Go.Proofs.YtnkpakakgfkpbaaW.PrintWords

end
section
namespace Go.Proofs.YtnkpakakgfkpbaaW.PrintWords
open Go.RowKit
namespace Kd
section
variable {α:Type} {n:Nat} {d:Kd α} {hs:0 < d.sz} {w:World} {base:Nat} {ok:Nat→Prop} {xs:List α} {cs:List Value}
end
section
variable {α:Type} {n:Nat} {enc:α→Value} {h1:∀ x,(enc x).oneCell'=true} {hs:0 < (scalar enc h1).sz} {w:World} {base:Nat} {ok:Nat→Prop} {xs:List α} {cs:List Value}
end
end Kd
end Go.Proofs.YtnkpakakgfkpbaaW.PrintWords

end
section
namespace Go.Proofs.YtnkpakakgfkpbaaW.PrintWords
open Go.RowKit
section
variable {P:Program}
end
namespace Kd
section
variable {P:Program} {ops:Array Oper} {rest:List Oper} {o:Oper} {a:Act} {Q:Exit→Act→World→Prop} {Kc:Act→World→Prop} {α:Type}
end
section
variable {α:Type} {d:Kd α} {e:Nat} {w:World} {base:Nat} {ok:Nat→Prop} {v:Value} {xs:List α}
end
section
variable {P:Program} {ops:Array Oper} {rest:List Oper} {o:Oper} {a:Act} {Q:Exit→Act→World→Prop} {Kc:Act→World→Prop} {α:Type}
end
end Kd
end Go.Proofs.YtnkpakakgfkpbaaW.PrintWords

end
section
namespace Go.Proofs.YtnkpakakgfkpbaaW.PrintWords
open Go.RowKit
namespace Kd
structure Heap {α:Type} (d:Kd α):Prop where
  K:∀ {w w1:World} {x:α} {cs:List Value},(∀ k,k < w.heap.size→w1.heap[k]? = w.heap[k]?)→d.K w x cs→d.K w1 x cs
theorem cell_heap {w w1:World} (hb:∀ k,k < w.heap.size→w1.heap[k]? = w.heap[k]?) {a:Addr} {v:Value} (h:w.cell? a=some v):w1.cell? a=some v:=by
  have:=hb a.block (World.block_lt_of_cell? w a h)
  simpa [World.cell?,this] using h
theorem Heap.C {α:Type} {d:Kd α} (hd:Heap d) {w w1:World} {A:Option Addr} {n:Nat} {xs:List α} (hb:∀ k,k < w.heap.size→w1.heap[k]? = w.heap[k]?) (h:d.C w A n xs):d.C w1 A n xs:=
  ⟨h.1,h.2.1,fun hn=>by
    obtain ⟨ad,e,hc⟩:=h.2.2 hn
    refine ⟨ad,e,fun j p hj=>?_⟩
    obtain ⟨c,hs,hr,hcell⟩:=hc j p hj
    exact ⟨c,hs,hd.K hb hr,fun i u hu=>cell_heap hb (hcell i u hu)⟩⟩
theorem heap_int (k:IntKind):Heap (Kd.int k):=⟨fun _ h=>h⟩
theorem heap_string:Heap Kd.string:=⟨fun _ h=>h⟩
theorem heap_slice {α:Type} {d:Kd α} (e:Nat) (hd:Heap d):Heap (slice e d):=⟨by
  rintro w w1 x cs hb ⟨A,c,rfl,hl,hr⟩
  exact ⟨A,c,rfl,hl,hd.C hb hr⟩⟩
theorem heap_pair {α β:Type} {a:Kd α} {b:Kd β} (ha:Heap a) (hb':Heap b):Heap (pair a b):=⟨by
  rintro w w1 x cs hb ⟨c0,c1,rfl,h0,h1⟩
  exact ⟨c0,c1,rfl,ha.K hb h0,hb'.K hb h1⟩⟩
theorem heap_iso {α β:Type} {d:Kd α} (f:β→α) (hd:Heap d):Heap (iso d f):=⟨fun hb h=>hd.K hb h⟩
theorem heap_bot {α:Type} (sz:Nat) (E:List Nat):Heap (bot sz E:Kd α):=⟨fun _ h=>h⟩
theorem heap_upto {α:Type} {F:Kd α→Kd α} {sz:Nat} {E:List Nat} (hF:∀ d,Heap d→Heap (F d)):∀ n,Heap (upto F sz E n)
  | 0=>heap_bot sz E
  | n + 1=>hF _ (heap_upto hF n)
theorem heap_fix {α:Type} {F:Kd α→Kd α} {sz:Nat} {E:List Nat} {hs:∀ n,(upto F sz E n).sz=sz} {hE:∀ n q,q ∈ (upto F sz E n).E→q ∈ E} (hF:∀ d,Heap d→Heap (F d)):Heap (fix F sz E hs hE):=⟨by
  rintro w w1 x cs hb ⟨n,h⟩
  exact ⟨n,(heap_upto hF n).K hb h⟩⟩
section
variable {α:Type} {d:Kd α} {e base g n c:Nat} {ok:Nat→Prop} {w w0 W:World} {A:Option Addr} {xs:List α}
end
end Kd
end Go.Proofs.YtnkpakakgfkpbaaW.PrintWords

end
section
namespace Go.Proofs.YtnkpakakgfkpbaaW.PrintWords
open Go.RowKit
def Kept (w W:World) (S:Nat→Prop):Prop:=w.heap.size≤W.heap.size∧∀ i,i < w.heap.size→¬ S i→W.heap[i]? = w.heap[i]?
section
variable {w W W2:World} {S S2 S':Nat→Prop}
theorem Kept.refl (w:World) (S:Nat→Prop):Kept w w S:=⟨Nat.le_refl _,fun _ _ _=>rfl⟩
theorem Kept.then_ (h:Kept w W S) (k:Kept W W2 S2) (hs:∀ k,S2 k→S k∨w.heap.size≤k):Kept w W2 S:=
  ⟨Nat.le_trans h.1 k.1,fun i hi hn=>(k.2 i (Nat.lt_of_lt_of_le hi h.1) (fun h2=>(hs i h2).elim hn (fun h3=>by omega))).trans (h.2 i hi hn)⟩
theorem Kept.drew (h:Kept w W S):Kept w W.drew S:=h
theorem Kept.setCell (h:Kept w W S) {p:Addr} (hp:S p.block∨w.heap.size≤p.block) (u:Value):Kept w (W.setCell p u) S:=
  h.then_ (S2:=fun k=>k=p.block) ⟨by simp [World.setCell],fun i _ hn=>Below.heap_setCell W p u i hn⟩ (fun k hk=>by rw [hk];exact hp)
end
namespace Kd
section
variable {α:Type} {d:Kd α} {e base n c:Nat} {ok oki S S2:Nat→Prop} {w w0 W W1 W2:World} {v:Value} {A:Option Addr} {xs:List α} {i:Int} {cs:List Value}
end
end Kd
end Go.Proofs.YtnkpakakgfkpbaaW.PrintWords

end
section
namespace Go.Proofs.YtnkpakakgfkpbaaW.PrintWords
open Go.RowKit
def Foot (P:World→Prop) (W:World) (ok:Nat→Prop):Prop:=∀ W':World,(∀ k,ok k→k < W.heap.size→W'.heap[k]? = W.heap[k]?)→P W'
theorem heap_lt {W W1:World} {k:Nat} (h:W1.heap[k]? = W.heap[k]?) (hlt:k < W.heap.size):k < W1.heap.size:=by
  rw [Array.getElem?_eq_getElem hlt] at h
  exact (Array.getElem?_eq_some_iff.1 h).1
namespace Foot
variable {P Q:World→Prop} {W W1:World} {ok ok':Nat→Prop}
theorem now (h:Foot P W ok):P W:=h W (fun _ _ _=>rfl)
theorem mono (h:Foot P W ok) (hok:∀ k,ok k→ok' k):Foot P W ok':=fun W' hW=>h W' (fun k hk hlt=>hW k (hok k hk) hlt)
theorem bound (h:Foot P W ok):Foot P W (fun k=>ok k∧k < W.heap.size):=fun W' hW=>h W' (fun k hk hlt=>hW k ⟨hk,hlt⟩ hlt)
theorem step (h:Foot P W ok) (hm:∀ k,ok k→k < W.heap.size→W1.heap[k]? = W.heap[k]?):Foot P W1 ok:=fun W' hW=>h W' (fun k hk hlt=>(hW k hk (heap_lt (hm k hk hlt) hlt)).trans (hm k hk hlt))
theorem old (h:Foot P W ok) (hb:Below W.heap.size W W1):Foot P W1 (fun k=>ok k∧k < W.heap.size):=(h.bound).step (fun k _ hlt=>hb.block k hlt)
end Foot
namespace Kd
def F {α:Type} (d:Kd α) (W:World) (ok:Nat→Prop) (A:Option Addr) (n:Nat) (xs:List α):Prop:=Foot (fun W=>d.C W A n xs) W ok
def FK {α:Type} (d:Kd α) (W:World) (ok:Nat→Prop) (x:α) (c:List Value):Prop:=Foot (fun W=>d.K W x c) W ok
section
variable {α β:Type} {d:Kd α} {e base n n' cc g N:Nat} {ok ok' okp S:Nat→Prop} {w w0 w1 W W1:World} {A A':Option Addr} {u v v1:Value} {xs:List α} {xs':List β} {d':Kd β} {x:α} {c:List Value}
theorem F_now (h:F d W ok A n xs):d.C W A n xs:=Foot.now h
theorem F_mono (h:F d W ok A n xs) (hok:∀ k,ok k→ok' k):F d W ok' A n xs:=Foot.mono h hok
theorem F_bound (h:F d W ok A n xs):F d W (fun k=>ok k∧k < W.heap.size) A n xs:=Foot.bound h
theorem F_step (h:F d W ok A n xs) (hm:∀ k,ok k→k < W.heap.size→W1.heap[k]? = W.heap[k]?):F d W1 ok A n xs:=Foot.step h hm
theorem F_below (h:F d W ok A n xs) (hb:Below W.heap.size W W1):F d W1 ok A n xs:=F_step h (fun k _ hlt=>hb.block k hlt)
theorem F_drew (h:F d W ok A n xs):F d W.drew ok A n xs:=F_below h (below_drew (Below.refl _ _))
theorem F_far (h:F d W ok A n xs) {p:Addr} (hok:∀ k,ok k→k≠p.block) (u:Value):F d (W.setCell p u) ok A n xs:=F_step h (fun k hk _=>Below.heap_setCell W p u k (hok k hk))
theorem F_kept (h:F d W ok A n xs) (hk:Kept W W1 S) (hok:∀ k,ok k→¬ S k):F d W1 ok A n xs:=F_step h (fun k ho hlt=>hk.2 k hlt (hok k ho))
theorem F_nil (d:Kd α) (W:World) (ok:Nat→Prop):F d W ok none ([]:List α).length []:=fun W' _=>C_nil d W'
theorem F_elder' (h:F d W ok A n xs) (hbase:∀ k,v.ownBlock=some k→W.heap.size≤k) (hb:Below W.heap.size W W1):F d W1 (fun k=>ok k∧some k≠v.ownBlock) A n xs:=
  F_mono (Foot.old h hb) (fun k hk=>⟨hk.1,fun he=>by have:=hbase k he.symm;have:=hk.2;omega⟩)
theorem F_elderB (h:F d W ok A n xs) (a:Nat) (ha:W.heap.size≤a):F d W (fun k=>ok k∧k≠a) A n xs:=F_mono (F_bound h) (fun k hk=>⟨hk.1,by have:=hk.2;omega⟩)
theorem F_after (h:F d W (fun k=>ok k∧some k≠v.ownBlock) A n xs) (hg:W.grownBy W1 v.ownBlock) (hat:v1.ownBlock=v.ownBlock∨∃ b,v1.ownBlock=some b∧W.heap.size≤b):F d W1 (fun k=>ok k∧some k≠v1.ownBlock) A n xs:=by
  refine F_mono (Foot.step (F_bound h) (fun k hk hlt=>hg.block k hlt hk.1.2)) (fun k hk=>⟨hk.1.1,?_⟩)
  rcases hat with hat|⟨b,hb,hle⟩
  · rw [hat];exact hk.1.2
  · rw [hb]
    intro he
    injection he with he
    have:=hk.2
    omega
theorem F_old (h:F d W ok A n xs) (hb:Below W.heap.size W W1):F d W1 (fun k=>ok k∧k < W.heap.size) A n xs:=Foot.old h hb
theorem F_told (h:F d W1 (fun k=>ok k∧k < N) A n xs) (hbase:∀ k,v.ownBlock=some k→N≤k):F d W1 (fun k=>(ok k∧some k≠v.ownBlock)∧k < N) A n xs:=
  F_mono h (fun k hk=>⟨⟨hk.1,fun he=>Nat.lt_irrefl _ (Nat.lt_of_lt_of_le hk.2 (hbase k he.symm))⟩,hk.2⟩)
theorem C_F (hd:Heap d) (h:d.C w A n xs):F d w (fun k=>k < w.heap.size) A n xs:=fun _ hW=>hd.C (fun k hlt=>hW k hlt hlt) h
theorem R_F (h:d.R e W base ok (.slice A n cc) xs):F d W ok A n xs:=fun W' hW=>by
  have h2:=R_reads' (R_step h hW)
  rw [h2.1]
  exact h2.2.2
theorem FK_now (h:FK d W ok x c):d.K W x c:=Foot.now h
theorem FK_mono (h:FK d W ok x c) (hok:∀ k,ok k→ok' k):FK d W ok' x c:=Foot.mono h hok
theorem FK_bound (h:FK d W ok x c):FK d W (fun k=>ok k∧k < W.heap.size) x c:=Foot.bound h
theorem FK_step (h:FK d W ok x c) (hm:∀ k,ok k→k < W.heap.size→W1.heap[k]? = W.heap[k]?):FK d W1 ok x c:=Foot.step h hm
theorem FK_of_M (h:d.M W base ok x c):FK d W ok x c:=fun _ hW=>d.K_of_M (M_step h hW)
theorem emptied (W:World) (g:Nat):∃ W':World,(∀ k,k≠g→W'.heap[k]? = W.heap[k]?)∧∀ a:Addr,a.block=g→W'.cell? a=none:=by
  refine ⟨{ W with heap:=W.heap.setIfInBounds g (.cells #[] 0) },fun k hk=>by simp [Ne.symm hk],fun a ha=>?_⟩
  subst ha
  by_cases hlt:a.block < W.heap.size
  · simp [World.cell?,hlt]
  · simp [World.cell?,hlt]
end
end Kd
end Go.Proofs.YtnkpakakgfkpbaaW.PrintWords

end
section
namespace Go.Proofs.YtnkpakakgfkpbaaW.PrintWords
open Go.RowKit
namespace Kd
def chunks (sz:Nat) (n:Nat) (inner:List Value):List (List Value):=(List.range n).map fun j=>(inner.drop (j * sz)).take sz
theorem chunks_length (sz n:Nat) (inner:List Value):(chunks sz n inner).length=n:=by simp [chunks]
theorem chunks_at {sz n:Nat} {inner:List Value} {j:Nat} (hj:j < n):(chunks sz n inner)[j]? = some ((inner.drop (j * sz)).take sz):=by simp [chunks,hj]
theorem chunks_get {sz n:Nat} {inner:List Value} {j:Nat} {c:List Value} (h:(chunks sz n inner)[j]? = some c):c=(inner.drop (j * sz)).take sz:=by
  have hj:j < n:=by have:=(List.getElem?_eq_some_iff.1 h).1;rwa [chunks_length] at this
  rw [chunks_at hj] at h
  injection h with h
  exact h.symm
theorem reps_raw {α:Type} {Rr:α→List Value→Prop} {sz:Nat} {xs:List α} {inner:List Value} (h:Reps Rr sz xs inner) (hR:∀ x c,Rr x c→c.length=sz∧∀ u ∈ c,u.oneCell'=true):Reps (fun x cs=>cs=x∧cs.length=sz∧∀ u ∈ cs,u.oneCell'=true) sz (chunks sz xs.length inner) inner:=by
  refine ⟨by rw [chunks_length];exact h.1,fun j p hj=>?_⟩
  have hjl:j < xs.length:=by have:=(List.getElem?_eq_some_iff.1 hj).1;rwa [chunks_length] at this
  have hp:=chunks_get hj
  exact ⟨hp.symm,hR _ _ (h.2 j _ (List.getElem?_eq_getElem hjl))⟩
section
variable {α:Type} {d:Kd α} {e base n cc g:Nat} {ok ok' okp S:Nat→Prop} {w w1 W W1:World} {A:Option Addr} {u v v1:Value} {xs:List α} {x:α} {c:List Value}
theorem F_get (h:F d W ok A n xs) (z:α) (i:Int) (h0:0≤i) (h1:i < n) :
    ∃ ad c,A=some ad∧c.length=d.sz∧FK d W ok (xs.getD i.toNat z) c∧(∀ j u,c[j]? = some u→W.cell? (ad.add (i.toNat * d.sz + j))=some u)∧(0 < d.sz→ok ad.block):=by
  obtain ⟨ad,c,rfl,hcl,hK,hcc⟩:=C_get (F_now h) z i h0 h1
  have hin:0 < d.sz→ok ad.block:=by
    intro hs
    by_cases hk:ok ad.block
    · exact hk
    · obtain ⟨W',h2,h3⟩:=emptied W ad.block
      obtain ⟨ad',c',he,hcl',_,hcc'⟩:=C_get (h W' (fun k hk' _=>h2 k (fun e=>hk (e ▸ hk')))) z i h0 h1
      injection he with he
      subst he
      have h4:=hcc' 0 _ (List.getElem?_eq_getElem (by omega))
      rw [h3 _ (add_block _ _)] at h4
      cases h4
  refine ⟨ad,c,rfl,hcl,fun W' hW=>?_,hcc,hin⟩
  obtain ⟨ad',c',he,hcl',hK',hcc'⟩:=C_get (h W' hW) z i h0 h1
  injection he with he
  subst he
  have hc:c=c':=by
    apply List.ext_getElem?
    intro j
    by_cases hj:j < d.sz
    · have hb:W'.heap[ad.block]? = W.heap[ad.block]?:=by
        have h5:=hcc j _ (List.getElem?_eq_getElem (by omega))
        have h6:=World.block_lt_of_cell? W _ h5
        rw [add_block] at h6
        exact hW _ (hin (by omega)) h6
      have h5:=hcc j _ (List.getElem?_eq_getElem (by omega))
      have h6:=hcc' j _ (List.getElem?_eq_getElem (by omega))
      have h7:W'.cell? (ad.add (i.toNat * d.sz + j))=W.cell? (ad.add (i.toNat * d.sz + j)):=by simp [World.cell?,add_block,hb]
      rw [h7,h5] at h6
      rw [List.getElem?_eq_getElem (by omega),List.getElem?_eq_getElem (by omega)]
      exact h6
    · rw [List.getElem?_eq_none (by omega),List.getElem?_eq_none (by omega)]
  rw [hc]
  exact hK'
theorem F_rows (h:F d W ok A n xs):ReadsRow (fun x c=>FK d W ok x c) d.sz W A n xs:=by
  obtain ⟨hl,hm,hn⟩:=F_now h
  refine ⟨hl,hm,fun hp=>?_⟩
  obtain ⟨ad,rfl,_⟩:=hn hp
  refine ⟨ad,rfl,fun j p hj=>?_⟩
  obtain ⟨hjl,hjp⟩:=List.getElem?_eq_some_iff.1 hj
  obtain ⟨ad',c,he,hcl,hK,hcc,_⟩:=F_get h p (j:Int) (by omega) (by omega)
  injection he with he
  subst he
  simp only [Int.toNat_natCast] at hK hcc
  rw [List.getD_eq_getElem?_getD,hj] at hK
  exact ⟨c,hcl,hK,hcc⟩
def N {α:Type} (d:Kd α) (e:Nat) (w:World) (base:Nat) (ok:Nat→Prop) (v:Value) (xs:List α):Prop:=
  (∀ k,v.ownBlock=some k→ok k)∧∃ rows:List (List Value),rows.length=xs.length∧(raw d.sz).R e w base (fun k=>some k=v.ownBlock) v rows∧∀ (j:Nat) (x:α) (c:List Value),xs[j]? = some x→rows[j]? = some c→FK d w (fun k=>ok k∧some k≠v.ownBlock) x c
theorem raw_tight {sz:Nat} {rows:List (List Value)} (h:(raw sz).R e w base ok v rows):(raw sz).R e w base (fun k=>some k=v.ownBlock) v rows:=R_tight rfl h
theorem raw_any {sz:Nat} {rows:List (List Value)} (h:(raw sz).R e w base ok v rows):(raw sz).R e w base (fun _=>True) v rows:=R_mono h (fun _ _=>trivial)
theorem R_N (h:d.R e w base ok v xs):N d e w base ok v xs:=by
  obtain ⟨h0,inner,ho,hr⟩:=h
  refine ⟨h0,chunks d.sz xs.length inner,chunks_length _ _ _,⟨fun k hk=>hk.symm,inner,by rw [chunks_length];exact ho,reps_raw hr (fun x c hp=>⟨d.K_len (d.K_of_M hp),d.K_one (d.K_of_M hp)⟩)⟩,fun j x c hx hc=>?_⟩
  rw [chunks_get hc]
  exact FK_of_M (hr.2 j x hx)
theorem N_nil (d:Kd α) (e:Nat) (w:World) (base:Nat) (ok:Nat→Prop):N d e w base ok (.slice none 0 0) []:=R_N (R_nil _ _ _ _ _)
theorem N_mono (h:N d e w base ok v xs) (hok:∀ k,ok k→ok' k):N d e w base ok' v xs:=by
  obtain ⟨h0,rows,hl,hR,hf⟩:=h
  exact ⟨fun k hk=>hok k (h0 k hk),rows,hl,hR,fun j x c hx hc=>FK_mono (hf j x c hx hc) (fun k hk=>⟨hok k hk.1,hk.2⟩)⟩
theorem N_lt (h:N d e w base ok v xs):∀ k,v.ownBlock=some k→k < w.heap.size:=by
  obtain ⟨_,rows,_,hR,_⟩:=h
  exact R_lt hR
theorem N_base (h:N d e w base ok v xs):∀ k,v.ownBlock=some k→base≤k:=by
  obtain ⟨_,rows,_,hR,_⟩:=h
  exact R_base hR
theorem N_typed (h:N d e w base ok v xs):∀ k,v.ownBlock=some k→∃ cells,w.heap[k]? = some (.cells cells e (0,0)):=by
  obtain ⟨_,rows,_,hR,_⟩:=h
  exact R_typed hR
theorem N_ne (h:N d e w base ok v xs) {t:Nat} {cells:Array Value} (hb:w.heap[g]? = some (.cells cells t (0,0))) (ht:e≠t):some g≠v.ownBlock:=by
  obtain ⟨_,rows,_,hR,_⟩:=h
  exact R_ne hR hb ht
theorem N_bound (h:N d e w base ok v xs):N d e w base (fun k=>ok k∧k < w.heap.size) v xs:=by
  have hlt:=N_lt h
  obtain ⟨h0,rows,hl,hR,hf⟩:=h
  exact ⟨fun k hk=>⟨h0 k hk,hlt k hk⟩,rows,hl,hR,fun j x c hx hc=>FK_mono (FK_bound (hf j x c hx hc)) (fun k hk=>⟨⟨hk.1.1,hk.2⟩,hk.1.2⟩)⟩
theorem N_lower {base':Nat} (h:N d e w base ok v xs) (hb:base'≤base):N d e w base' ok v xs:=by
  obtain ⟨h0,rows,hl,hR,hf⟩:=h
  exact ⟨h0,rows,hl,R_lower hR hb,hf⟩
theorem N_step (h:N d e w base ok v xs) (hm:∀ k,ok k→k < w.heap.size→w1.heap[k]? = w.heap[k]?):N d e w1 base ok v xs:=by
  obtain ⟨h0,rows,hl,hR,hf⟩:=h
  exact ⟨h0,rows,hl,R_step hR (fun k hk hlt=>hm k (h0 k hk.symm) hlt),fun j x c hx hc=>FK_step (hf j x c hx hc) (fun k hk hlt=>hm k hk.1 hlt)⟩
theorem N_below (h:N d e w base ok v xs) (hb:Below w.heap.size w w1):N d e w1 base ok v xs:=N_step h (fun k _ hk=>hb.block k hk)
theorem N_drew (h:N d e w base ok v xs):N d e w.drew base ok v xs:=N_below h (below_drew (Below.refl _ _))
theorem N_drewN (h:N d e w base ok v xs) (m:Nat):N d e (w.drewN m) base ok v xs:=N_below h (pw_below_drewN (Below.refl _ _) m)
theorem N_far (h:N d e w base ok v xs) {p:Addr} (hok:∀ k,ok k→k≠p.block) (u:Value):N d e (w.setCell p u) base ok v xs:=N_step h (fun k ho _=>Below.heap_setCell w p u k (hok k ho))
theorem N_elder' (h:N d e W base ok v xs) (hbase:∀ k,u.ownBlock=some k→W.heap.size≤k) (hb:Below W.heap.size W w1):N d e w1 base (fun k=>ok k∧some k≠u.ownBlock) v xs:=
  N_mono (N_below (N_bound h) hb) (fun k hk=>⟨hk.1,fun he=>by have:=hbase k he.symm;have:=hk.2;omega⟩)
theorem N_elderB (h:N d e w base ok v xs) (a:Nat) (ha:w.heap.size≤a):N d e w base (fun k=>ok k∧k≠a) v xs:=N_mono (N_bound h) (fun k hk=>⟨hk.1,by have:=hk.2;omega⟩)
theorem N_after (h:N d e W base (fun k=>ok k∧some k≠u.ownBlock) v xs) {u1:Value} (hg:W.grownBy w1 u.ownBlock) (hat:u1.ownBlock=u.ownBlock∨∃ b,u1.ownBlock=some b∧W.heap.size≤b):N d e w1 base (fun k=>ok k∧some k≠u1.ownBlock) v xs:=by
  refine N_mono (N_step (N_bound h) (fun k hk hlt=>hg.block k hlt hk.1.2)) (fun k hk=>⟨hk.1.1,?_⟩)
  rcases hat with hat|⟨b,hb,hle⟩
  · rw [hat];exact hk.1.2
  · rw [hb]
    intro he
    injection he with he
    have:=hk.2
    omega
theorem N_old (h:N d e W base ok v xs) (hb:Below W.heap.size W w1):N d e w1 base (fun k=>ok k∧k < W.heap.size) v xs:=N_below (N_bound h) hb
theorem N_told {b:Nat} (h:N d e w1 base (fun k=>ok k∧k < b) v xs) (hbase:∀ k,u.ownBlock=some k→b≤k):N d e w1 base (fun k=>(ok k∧some k≠u.ownBlock)∧k < b) v xs:=
  N_mono h (fun k hk=>⟨⟨hk.1,fun e=>Nat.lt_irrefl _ (Nat.lt_of_lt_of_le hk.2 (hbase k e.symm))⟩,hk.2⟩)
theorem N_slice (h:N d e w base ok v xs):∃ A c,v = .slice A xs.length c:=by
  obtain ⟨_,rows,hl,hR,_⟩:=h
  obtain ⟨A,c,he⟩:=R_slice hR
  exact ⟨A,c,by rw [he,hl]⟩
theorem N_form (h:N d e w base ok v xs) (hp:0 < xs.length):∃ g cap,v = .slice (some ⟨g,0,none⟩) xs.length cap∧base≤g∧g < w.heap.size∧∃ cells,w.heap[g]? = some (.cells cells e (0,0)):=by
  obtain ⟨_,rows,hl,hR,_⟩:=h
  rw [← hl] at hp ⊢
  exact R_form hR hp
theorem N_reads' {n c:Nat} (h:N d e w base ok (.slice A n c) xs):n=xs.length∧n≤c∧d.C w A xs.length xs:=by
  obtain ⟨_,rows,hl,hR,hf⟩:=h
  obtain ⟨hn,hc,hC⟩:=R_reads' hR
  refine ⟨by omega,hc,?_⟩
  rw [hl] at hC
  refine ⟨rfl,hC.2.1,fun hp=>?_⟩
  obtain ⟨ad,he,hcell⟩:=hC.2.2 hp
  refine ⟨ad,he,fun j p hj=>?_⟩
  have hjl:j < rows.length:=by have:=(List.getElem?_eq_some_iff.1 hj).1;omega
  obtain ⟨c',hcl,hK,hcc⟩:=hcell j _ (List.getElem?_eq_getElem hjl)
  have hk:=FK_now (hf j p _ hj (List.getElem?_eq_getElem hjl))
  refine ⟨c',hcl,?_,hcc⟩
  rw [show c'=rows[j] from hK.1]
  exact hk
theorem N_F {n:Nat} (h:N d e w base ok (.slice A n cc) xs):F d w ok A n xs:=fun W' hW=>by
  have h2:=N_reads' (N_step h hW)
  rw [h2.1]
  exact h2.2.2
theorem N_elem {n cap:Nat} (h:N d e W base ok (.slice (some ⟨g,0,none⟩) n cap) xs) (z:α) (i:Int) (h0:0≤i) (h1:i < n) :
    ∃ c,c.length=d.sz∧FK d W (fun k=>ok k∧k≠g) (xs.getD i.toNat z) c∧(∀ j u,c[j]? = some u→W.cell? ⟨g,i.toNat * d.sz + j,none⟩=some u)∧∀ j,W.frozen? ⟨g,i.toNat * d.sz + j,none⟩=false:=by
  obtain ⟨_,rows,hl,hR,hf⟩:=h
  have hn:=(R_reads' hR).1
  obtain ⟨c,hcl,hM,hcc,hfr⟩:=R_elem hR [] i h0 h1
  have hil:i.toNat < rows.length:=by omega
  have hil':i.toNat < xs.length:=by omega
  have hc:c=rows[i.toNat]:=by
    have h2:=hM.1
    rwa [List.getD_eq_getElem?_getD,List.getElem?_eq_getElem hil] at h2
  refine ⟨c,hcl,?_,hcc,hfr⟩
  rw [List.getD_eq_getElem?_getD,List.getElem?_eq_getElem hil']
  exact FK_mono (hf _ _ _ (List.getElem?_eq_getElem hil') (by rw [hc];exact List.getElem?_eq_getElem hil)) (fun k hk=>⟨hk.1,fun he=>hk.2 (by rw [he];simp [Value.ownBlock])⟩)
end
end Kd
end Go.Proofs.YtnkpakakgfkpbaaW.PrintWords

end
section
namespace Go.Proofs.YtnkpakakgfkpbaaW.PrintWords
open Go.RowKit
namespace Kd
section
variable {α:Type} {d:Kd α} {W:World} {g n:Nat} {S ok:Nat→Prop} {A:Option Addr} {ad:Addr} {xs:List α}
end
end Kd
end Go.Proofs.YtnkpakakgfkpbaaW.PrintWords

end
section
namespace Go.Proofs.YtnkpakakgfkpbaaW.PrintWords
open Go.RowKit
section
variable {w w' u:World} {m B g:Nat} {o:Obj} {row:Option Nat} {S:Nat→Prop} {a:Addr} {v:Value}
end
namespace Kd
section
variable {α:Type} {d:Kd α} {e base n m:Nat} {ok:Nat→Prop} {w w':World} {v:Value} {A:Option Addr} {xs:List α}
end
end Kd
end Go.Proofs.YtnkpakakgfkpbaaW.PrintWords

end
section
namespace Go.Proofs.YtnkpakakgfkpbaaW.PrintWords
open Go.RowKit
section
variable {P:Program} {d:Nat} {xs ys:Array Value} {f:Field} {fs:List Field} {a b:Value} {r s:Bool} {w:World}
end
end Go.Proofs.YtnkpakakgfkpbaaW.PrintWords
end
section
namespace Go.Proofs.YtnkpakakgfkpbaaW.PrintWords
theorem Reps.one {α:Type} {R:α→List Value→Prop} {ps:List α} {cs:List Value} {p:α} {v:Value} (hp:R p [v]) (h:Reps R 1 ps cs):Reps R 1 (p :: ps) (v :: cs):=by
  refine ⟨by simp [h.1],fun j q hq=>?_⟩
  cases j with
  | zero=>
    simp only [List.getElem?_cons_zero,Option.some.injEq] at hq
    subst hq
    simpa using hp
  | succ j=>
    simp only [List.getElem?_cons_succ] at hq
    have h1:=h.2 j q hq
    simpa [Nat.mul_one] using h1
theorem Reps.front {α:Type} {R:α→List Value→Prop} {size:Nat} {ps:List α} {cs c all:List Value} {p:α} (hp:R p c) (hc:c.length=size) (h:Reps R size ps cs) (ha:c ++ cs=all):Reps R size (p :: ps) all:=by
  subst ha
  refine ⟨by rw [List.length_append,hc,h.1,List.length_cons,Nat.succ_mul,Nat.add_comm],fun j q hq=>?_⟩
  cases j with
  | zero=>
    simp only [List.getElem?_cons_zero,Option.some.injEq] at hq
    subst hq
    rw [Nat.zero_mul,List.drop_zero,List.take_append_of_le_length (by omega),List.take_of_length_le (by omega)]
    exact hp
  | succ j=>
    simp only [List.getElem?_cons_succ] at hq
    have h1:=h.2 j q hq
    rw [Nat.succ_mul,List.drop_append,List.drop_of_length_le (by rw [hc];exact Nat.le_add_left _ _),List.nil_append,hc,Nat.add_sub_cancel]
    exact h1
theorem Reps.c2 {α:Type} {R:α→List Value→Prop} {ps:List α} {cs:List Value} {p:α} {va vb:Value} (hp:R p [va,vb]) (h:Reps R 2 ps cs):Reps R 2 (p :: ps) (va :: vb :: cs):=Reps.front hp rfl h rfl
theorem Reps.c3 {α:Type} {R:α→List Value→Prop} {ps:List α} {cs:List Value} {p:α} {va vb vc:Value} (hp:R p [va,vb,vc]) (h:Reps R 3 ps cs):Reps R 3 (p :: ps) (va :: vb :: vc :: cs):=Reps.front hp rfl h rfl
theorem Reps.c4 {α:Type} {R:α→List Value→Prop} {ps:List α} {cs:List Value} {p:α} {va vb vc vd:Value} (hp:R p [va,vb,vc,vd]) (h:Reps R 4 ps cs):Reps R 4 (p :: ps) (va :: vb :: vc :: vd :: cs):=Reps.front hp rfl h rfl
theorem Reps.c5 {α:Type} {R:α→List Value→Prop} {ps:List α} {cs:List Value} {p:α} {va vb vc vd ve:Value} (hp:R p [va,vb,vc,vd,ve]) (h:Reps R 5 ps cs):Reps R 5 (p :: ps) (va :: vb :: vc :: vd :: ve :: cs):=Reps.front hp rfl h rfl
theorem Reps.c6 {α:Type} {R:α→List Value→Prop} {ps:List α} {cs:List Value} {p:α} {va vb vc vd ve vf:Value} (hp:R p [va,vb,vc,vd,ve,vf]) (h:Reps R 6 ps cs):Reps R 6 (p :: ps) (va :: vb :: vc :: vd :: ve :: vf :: cs):=Reps.front hp rfl h rfl
theorem Reps.c7 {α:Type} {R:α→List Value→Prop} {ps:List α} {cs:List Value} {p:α} {va vb vc vd ve vf vg:Value} (hp:R p [va,vb,vc,vd,ve,vf,vg]) (h:Reps R 7 ps cs):Reps R 7 (p :: ps) (va :: vb :: vc :: vd :: ve :: vf :: vg :: cs):=Reps.front hp rfl h rfl
theorem Reps.c8 {α:Type} {R:α→List Value→Prop} {ps:List α} {cs:List Value} {p:α} {va vb vc vd ve vf vg vh:Value} (hp:R p [va,vb,vc,vd,ve,vf,vg,vh]) (h:Reps R 8 ps cs):Reps R 8 (p :: ps) (va :: vb :: vc :: vd :: ve :: vf :: vg :: vh :: cs):=Reps.front hp rfl h rfl
theorem Reps.c9 {α:Type} {R:α→List Value→Prop} {ps:List α} {cs:List Value} {p:α} {va vb vc vd ve vf vg vh vi:Value} (hp:R p [va,vb,vc,vd,ve,vf,vg,vh,vi]) (h:Reps R 9 ps cs):Reps R 9 (p :: ps) (va :: vb :: vc :: vd :: ve :: vf :: vg :: vh :: vi :: cs):=Reps.front hp rfl h rfl
theorem Reps.c10 {α:Type} {R:α→List Value→Prop} {ps:List α} {cs:List Value} {p:α} {va vb vc vd ve vf vg vh vi vj:Value} (hp:R p [va,vb,vc,vd,ve,vf,vg,vh,vi,vj]) (h:Reps R 10 ps cs):Reps R 10 (p :: ps) (va :: vb :: vc :: vd :: ve :: vf :: vg :: vh :: vi :: vj :: cs):=Reps.front hp rfl h rfl
end Go.Proofs.YtnkpakakgfkpbaaW.PrintWords
end
section
namespace Go.Proofs.YtnkpakakgfkpbaaW.PrintLast
section
variable {P:Program} {ops:Array Oper} {Q:Exit→Act→World→Prop} {md:Region.Mode} {T:Bool × List (List Nat × List Nat)} {B:List Nat} {O:List Nat} {b:Nat→Bool} {i j n:Nat}
end
end Go.Proofs.YtnkpakakgfkpbaaW.PrintLast
end
section
namespace Go.Proofs.YtnkpakakgfkpbaaW.PrintWords
open Go.RowKit
end Go.Proofs.YtnkpakakgfkpbaaW.PrintWords
namespace Go.Proofs.YtnkpakakgfkpbaaW.PrintLast
section
variable {ops:Array Oper} {a:Act} {o og:Oper} {g:Nat} {t:Tmp} {u:Bool}
end
end Go.Proofs.YtnkpakakgfkpbaaW.PrintLast

end
section
namespace Go.Proofs.YtnkpakakgfkpbaaW.PrintWords
open Go.RowKit
section
variable {P:Program} {ops:Array Oper} {rest:List Oper} {o:Oper} {a:Act} {Q:Exit→Act→World→Prop} {W:World}
theorem gate_guard (hw:Region.wanted o (yielded ops a.tmps)=true) (h:wpList P ops Q ({ o with guard:=none } :: rest) a W):wpList P ops Q (o :: rest) a W:=by
  have h1:Region.wanted { o with guard:=none } (yielded ops a.tmps)=true:=rfl
  unfold wpList at h ⊢
  rw [if_pos h1] at h
  rw [if_pos hw]
  exact h
end
end Go.Proofs.YtnkpakakgfkpbaaW.PrintWords
end
section
namespace Go.Proofs.YtnkpakakgfkpbaaW.PrintWords
open Go.RowKit
namespace Kd
section
variable {α:Type} {d:Kd α} {e base n cap g:Nat} {ok ok' okp:Nat→Prop} {w w1 W:World} {v v1:Value} {xs ys:List α}
theorem N_appended {rows news:List (List Value)} (h0:∀ k,v.ownBlock=some k→ok k) (hl:rows.length=xs.length) (hf:∀ (j:Nat) (x:α) (c:List Value),xs[j]? = some x→rows[j]? = some c→FK d W (fun k=>ok k∧some k≠v.ownBlock) x c)
    (hl2:news.length=ys.length) (hf2:∀ (j:Nat) (x:α) (c:List Value),ys[j]? = some x→news[j]? = some c→FK d W okp x c) (hokp:∀ k,okp k→ok k∧some k≠v.ownBlock) (hfresh:∀ k,W.heap.size≤k→ok k)
    (hR:(raw d.sz).R e w1 base (fun _=>True) v1 (rows ++ news)) (hg:W.grownBy w1 v.ownBlock) (hat:v1.ownBlock=v.ownBlock∨∃ b,v1.ownBlock=some b∧W.heap.size≤b):N d e w1 base ok v1 (xs ++ ys):=by
  have hne:∀ k,some k≠v.ownBlock→k < W.heap.size→some k≠v1.ownBlock:=by
    intro k hk hlt
    rcases hat with hat|⟨b,hb,hle⟩
    · rw [hat];exact hk
    · rw [hb]
      intro he
      injection he with he
      omega
  have step:∀ {x:α} {c:List Value} {o:Nat→Prop},FK d W o x c→(∀ k,o k→ok k∧some k≠v.ownBlock)→FK d w1 (fun k=>ok k∧some k≠v1.ownBlock) x c:=by
    intro x c o hq ho
    exact FK_mono (FK_step (FK_bound hq) (fun k hk hlt=>hg.block k hlt (ho k hk.1).2)) (fun k hk=>⟨(ho k hk.1).1,hne k (ho k hk.1).2 hk.2⟩)
  refine ⟨fun k hk=>?_,rows ++ news,by rw [List.length_append,List.length_append,hl,hl2],raw_tight hR,fun j x c hx hc=>?_⟩
  · rcases hat with hat|⟨b,hb,hle⟩
    · exact h0 k (hat ▸ hk)
    · rw [hb] at hk
      injection hk with hk
      exact hfresh k (by omega)
  · rcases Nat.lt_or_ge j xs.length with hlt|hge
    · rw [List.getElem?_append_left hlt] at hx
      rw [List.getElem?_append_left (by omega)] at hc
      exact step (hf j x c hx hc) (fun _ hk=>hk)
    · rw [List.getElem?_append_right hge] at hx
      rw [List.getElem?_append_right (by omega),hl] at hc
      exact step (hf2 _ x c hx hc) hokp
theorem FK_raw {x:α} {c:List Value} (h:FK d W ok x c):c=c∧c.length=d.sz∧∀ u ∈ c,u.oneCell'=true:=⟨rfl,d.K_len (FK_now h),d.K_one (FK_now h)⟩
theorem N_made {rows:List (List Value)} (hR:(raw d.sz).R e w1 base (fun k=>k=W.heap.size) v1 rows) (hg:W.grownBy w1 none) (hat:∃ b,v1.ownBlock=some b∧W.heap.size≤b) (hl:rows.length=xs.length) (hf:∀ (j:Nat) (x:α) (c:List Value),xs[j]? = some x→rows[j]? = some c→FK d W okp x c)
    (hok:∀ k,okp k→ok k) (hfresh:ok W.heap.size):N d e w1 base ok v1 xs:=by
  obtain ⟨b,hb,hle⟩:=hat
  refine ⟨fun k hk=>by rw [hR.1 k hk];exact hfresh,rows,hl,raw_tight hR,fun j x c hx hc=>?_⟩
  refine FK_mono (FK_step (FK_bound (hf j x c hx hc)) (fun k hk hlt=>hg.block k hlt (by simp))) (fun k hk=>⟨hok k hk.1,fun he=>?_⟩)
  rw [hb] at he
  injection he with he
  have:=hk.2
  omega
theorem N_written {rows:List (List Value)} {i:Int} {x':α} {c':List Value} (h0:∀ k,(Value.slice (some ⟨g,0,none⟩) n cap).ownBlock=some k→ok k) (hl:rows.length=xs.length) (hf:∀ (j:Nat) (x:α) (c:List Value),xs[j]? = some x→rows[j]? = some c→FK d W (fun k=>ok k∧some k≠(Value.slice (some ⟨g,0,none⟩) n cap).ownBlock) x c)
    (hR:(raw d.sz).R e w1 base (fun _=>True) (.slice (some ⟨g,0,none⟩) n cap) (rows.set i.toNat c')) (hg:W.grownBy w1 (some g)) (hM:FK d W okp x' c') (hokp:∀ k,okp k→ok k∧k≠g):N d e w1 base ok (.slice (some ⟨g,0,none⟩) n cap) (xs.set i.toNat x'):=by
  have hgo:some g=(Value.slice (some ⟨g,0,none⟩) n cap).ownBlock:=by simp [Value.ownBlock]
  refine ⟨h0,rows.set i.toNat c',by rw [List.length_set,List.length_set,hl],raw_tight hR,fun j x c hx hc=>?_⟩
  have hjl:j < xs.length:=by have:=(List.getElem?_eq_some_iff.1 hx).1;rwa [List.length_set] at this
  by_cases hji:j=i.toNat
  · subst hji
    rw [List.getElem?_set_self hjl] at hx
    rw [List.getElem?_set_self (by omega)] at hc
    injection hx with hx
    injection hc with hc
    rw [← hx,← hc]
    exact FK_mono (FK_step hM (fun k hk hlt=>hg.block k hlt (fun he=>(hokp k hk).2 (by injection he)))) (fun k hk=>⟨(hokp k hk).1,fun he=>(hokp k hk).2 (by rw [← hgo] at he;injection he)⟩)
  · rw [List.getElem?_set_ne (Ne.symm hji)] at hx hc
    exact FK_step (hf j x c hx hc) (fun k hk hlt=>hg.block k hlt (by rw [hgo];exact hk.2))
theorem N_seg (h:N d e W base ok (.slice (some ⟨g,0,none⟩) n cap) xs) (i:Int) (h0:0≤i) (h1:i < n) {c seg:List Value} {j:Nat} (hcl:c.length=d.sz) (hcc:∀ j u,c[j]? = some u→W.cell? ⟨g,i.toNat * d.sz + j,none⟩=some u)
    (hj:j + seg.length≤d.sz) {x':α} (hM:FK d W okp x' (c.take j ++ seg ++ c.drop (j + seg.length))) (hokp:∀ k,okp k→ok k∧k≠g) :
    N d e (W.setCells g (i.toNat * d.sz + j) seg) base ok (.slice (some ⟨g,0,none⟩) n cap) (xs.set i.toNat x')∧W.grownBy (W.setCells g (i.toNat * d.sz + j) seg) (some g):=by
  obtain ⟨hown,rows,hl,hR,hf⟩:=h
  obtain ⟨h2,h3⟩:=R_seg (raw_any hR) i h0 h1 (c:=c) (seg:=seg) (j:=j) (x':=c.take j ++ seg ++ c.drop (j + seg.length)) (okp:=fun _=>False) hcl hcc hj ⟨rfl,d.K_len (FK_now hM),d.K_one (FK_now hM)⟩ (fun _ hk=>hk.elim)
  exact ⟨N_written hown hl hf h2 h3 hM hokp,h3⟩
theorem reads_raw {Rr:α→List Value→Prop} {sz m:Nat} {A:Option Addr} (h:ReadsRow Rr sz W A m ys) (hR:∀ x c,Rr x c→c.length=sz∧∀ u ∈ c,u.oneCell'=true) :
    ∃ news:List (List Value),news.length=ys.length∧ReadsRow (fun x cs=>cs=x∧cs.length=sz∧∀ u ∈ cs,u.oneCell'=true) sz W A m news∧∀ (j:Nat) (x:α) (c:List Value),ys[j]? = some x→news[j]? = some c→Rr x c:=by
  rcases Nat.eq_zero_or_pos m with h0|hp
  · have hy:ys = []:=List.eq_nil_of_length_eq_zero (h.1.trans h0)
    subst hy
    exact ⟨[],rfl,⟨h0 ▸ rfl,h.2.1,fun hp=>by omega⟩,fun j x c hx=>by simp at hx⟩
  · obtain ⟨ad,rfl,_⟩:=h.2.2 hp
    obtain ⟨inner,hr,hc⟩:=ReadsRow.inner_ h
    refine ⟨chunks sz ys.length inner,chunks_length _ _ _,⟨by rw [chunks_length];exact h.1,h.2.1,fun _=>⟨ad,rfl,fun j p hj=>?_⟩⟩,fun j x c hx hcc=>?_⟩
    · have hjl:j < ys.length:=by have:=(List.getElem?_eq_some_iff.1 hj).1;rwa [chunks_length] at this
      have hpe:=chunks_get hj
      have hq:=hR _ _ (hr.2 j _ (List.getElem?_eq_getElem hjl))
      rw [← hpe] at hq
      refine ⟨p,hq.1,⟨rfl,hq⟩,fun i u hu=>?_⟩
      have hu2:inner[j * sz + i]? = some u:=by
        rw [hpe,List.getElem?_take] at hu
        split at hu
        · rw [List.getElem?_drop] at hu
          exact hu
        · cases hu
      exact hc _ u hu2
    · rw [chunks_get hcc]
      exact hr.2 j x hx
end
section
variable {P:Program} {ops:Array Oper} {rest:List Oper} {o:Oper} {a:Act} {Q:Exit→Act→World→Prop} {Kc:Act→World→Prop} {α:Type}
theorem N_append (d:Kd α) {w0 W:World} (base:Nat) (hgd:o.guard=none) (s x:Operand) (t e:TypeId) (z:Value) (bytes:Nat)
    (ho:o.op = .call { callee:=.builtin .append,args:=#[s,x],argTypes:=#[t,t] })
    (ht:P.underlying t=some (.slice e)) (hinfo:(P.info? e).map (fun i=>(i.zero,i.size,i.bytes))=some (some z,d.sz,bytes)) (hz:z.cells.size=d.sz) (hs0:0 < d.sz) (hb0:0 < bytes)
    (v:Value) (xs:List α) (p:α) (cs:List Value) (ok okp:Nat→Prop) (hs:a.eval s=v) (hx:a.eval x = .slice (some ⟨W.heap.size,0,none⟩) 1 1) (hp:FK d W okp p cs) (hokp:∀ k,okp k→ok k∧some k≠v.ownBlock) (hfresh:∀ k,W.heap.size≤k→ok k)
    (HO:N d e W base ok v xs) (HB:Below base w0 W) (hbase:base≤W.heap.size) (hl:(xs.length + 1) * bytes≤140737488355328)
    (h:∀ v1 w1,N d e w1 base ok v1 (xs ++ [p])→Below base w0 w1→W.grownBy w1 v.ownBlock→(v1.ownBlock=v.ownBlock∨∃ b,v1.ownBlock=some b∧W.heap.size≤b)→wpList P ops Q rest (a.put o.dst v1) w1) :
    wpList P ops Q (o :: rest) a (W.alloc (.cells cs.toArray e)):=by
  obtain ⟨h0,rows,hlr,hR,hf⟩:=HO
  refine R_append (raw d.sz) base hgd s x t e z bytes ho ht hinfo hz hs0 hb0 v rows cs cs (fun _=>True) (fun _=>False) hs hx (FK_raw hp) (fun _ hk=>hk.elim) (fun _ _=>trivial) (raw_any hR) HB hbase (by rw [hlr];exact hl) ?_
  intro v1 w1 hr hb hg hat
  exact h v1 w1 (N_appended h0 hlr hf (ys:=[p]) (news:=[cs]) rfl (fun j y c hy hc=>by
    rcases j with _|j
    · simp only [List.getElem?_cons_zero,Option.some.injEq] at hy hc
      rw [← hy,← hc];exact hp
    · simp at hy) hokp hfresh hr hg hat) hb hg hat
theorem N_append_step (d:Kd α) {w0 W:World} (base:Nat) (hw:Region.wanted o (yielded ops a.tmps)=true) (s x:Operand) (t e:TypeId) (z:Value) (bytes:Nat)
    (ho:o.op = .call { callee:=.builtin .append,args:=#[s,x],argTypes:=#[t,t] })
    (ht:P.underlying t=some (.slice e)) (hinfo:(P.info? e).map (fun i=>(i.zero,i.size,i.bytes))=some (some z,d.sz,bytes)) (hz:z.cells.size=d.sz) (hs0:0 < d.sz) (hb0:0 < bytes)
    (v:Value) (xs:List α) (p:α) (cs:List Value) (ok okp:Nat→Prop) (hs:a.eval s=v) (hx:a.eval x = .slice (some ⟨W.heap.size,0,none⟩) 1 1) (hp:FK d W okp p cs) (hokp:∀ k,okp k→ok k∧some k≠v.ownBlock) (hfresh:∀ k,W.heap.size≤k→ok k)
    (HO:N d e W base ok v xs) (HB:Below base w0 W) (hbase:base≤W.heap.size) (hl:(xs.length + 1) * bytes≤140737488355328)
    (h:∀ v1 w1,N d e w1 base ok v1 (xs ++ [p])→Below base w0 w1→W.grownBy w1 v.ownBlock→(v1.ownBlock=v.ownBlock∨∃ b,v1.ownBlock=some b∧W.heap.size≤b)→Kc (a.put o.dst v1) w1) :
    if Region.wanted o (yielded ops a.tmps)=true then Oper.wp P o a (W.alloc (.cells cs.toArray e)) Kc Q else Kc (a.put o.dst undef) (W.alloc (.cells cs.toArray e)):=by
  obtain ⟨h0,rows,hlr,hR,hf⟩:=HO
  refine R_append_step (raw d.sz) base hw s x t e z bytes ho ht hinfo hz hs0 hb0 v rows cs cs (fun _=>True) (fun _=>False) hs hx (FK_raw hp) (fun _ hk=>hk.elim) (fun _ _=>trivial) (raw_any hR) HB hbase (by rw [hlr];exact hl) ?_
  intro v1 w1 hr hb hg hat
  exact h v1 w1 (N_appended h0 hlr hf (ys:=[p]) (news:=[cs]) rfl (fun j y c hy hc=>by
    rcases j with _|j
    · simp only [List.getElem?_cons_zero,Option.some.injEq] at hy hc
      rw [← hy,← hc];exact hp
    · simp at hy) hokp hfresh hr hg hat) hb hg hat
theorem N_append_rows (d:Kd α) {w0 W:World} (base:Nat) (hgd:o.guard=none) (s x:Operand) (t e:TypeId) (z:Value) (bytes:Nat)
    (ho:o.op = .call { callee:=.builtin .append,args:=#[s,x],argTypes:=#[t,t] })
    (ht:P.underlying t=some (.slice e)) (hinfo:(P.info? e).map (fun i=>(i.zero,i.size,i.bytes))=some (some z,d.sz,bytes)) (hz:z.cells.size=d.sz) (hs0:0 < d.sz) (hb0:0 < bytes)
    (v:Value) (xs ys:List α) (A:Option Addr) (m c:Nat) (ok okp:Nat→Prop) (hs:a.eval s=v) (hx:a.eval x = .slice A m c)
    (HO:N d e W base ok v xs) (HR:F d W okp A m ys) (hokp:∀ k,okp k→ok k∧some k≠v.ownBlock) (hfresh:∀ k,W.heap.size≤k→ok k)
    (HB:Below base w0 W) (hbase:base≤W.heap.size) (hl:(xs.length + m) * bytes≤140737488355328)
    (h:∀ v1 w1,N d e w1 base ok v1 (xs ++ ys)→Below base w0 w1→W.grownBy w1 v.ownBlock→(v1.ownBlock=v.ownBlock∨∃ b,v1.ownBlock=some b∧W.heap.size≤b)→wpList P ops Q rest (a.put o.dst v1) w1) :
    wpList P ops Q (o :: rest) a W:=by
  obtain ⟨h0,rows,hlr,hR,hf⟩:=HO
  obtain ⟨news,hnl,hnr,hnf⟩:=reads_raw (F_rows HR) (fun y c hk=>⟨d.K_len (FK_now hk),d.K_one (FK_now hk)⟩)
  refine R_append_rows (raw d.sz) base hgd s x t e z bytes ho ht hinfo hz hs0 hb0 v rows news A m c (fun _=>True) (fun _=>False) hs hx (raw_any hR) hnr (fun _ _ hk=>hk) (fun _ hk=>hk.elim) (fun _ _=>trivial) HB hbase (by rw [hlr];exact hl) ?_
  intro v1 w1 hr hb hg hat
  exact h v1 w1 (N_appended h0 hlr hf hnl hnf hokp hfresh hr hg hat) hb hg hat
theorem N_lit (d:Kd α) {w0 W:World} (base e:Nat) (hgd:o.guard=none) {N':Tmp} (_hd:o.dst=some N') {xs:List α} {inner:List Value} {ok okp:Nat→Prop}
    (hrun:(execOp a.eval o).run P W = .ok (.value (.slice (some ⟨W.heap.size,0,none⟩) xs.length xs.length)) (W.alloc (.cells inner.toArray e)))
    (hrep:Reps (FK d W okp) d.sz xs inner) (hok:∀ k,okp k→ok k) (hfresh:ok W.heap.size) (HB:Below base w0 W) (hbase:base≤W.heap.size) (hm:xs.length≤9223372036854775807)
    (h:∀ v1 w1,N d e w1 base ok v1 xs→Below base w0 w1→W.grownBy w1 none→(∃ b,v1.ownBlock=some b∧W.heap.size≤b)→wpList P ops Q rest (a.put o.dst v1) w1) :
    wpList P ops Q (o :: rest) a W:=by
  refine R_lit (raw d.sz) base e hgd _hd (xs:=chunks d.sz xs.length inner) (inner:=inner) (ok:=fun k=>k=W.heap.size) (okp:=fun _=>False) (by rw [chunks_length];exact hrun) (reps_raw hrep (fun y c hk=>⟨d.K_len (FK_now hk),d.K_one (FK_now hk)⟩)) (fun _ hk=>hk.elim) rfl HB hbase (by rw [chunks_length];exact hm) ?_
  intro v1 w1 hr hb hg hat
  exact h v1 w1 (N_made hr hg hat (chunks_length _ _ _) (fun j y c hy hc=>by rw [chunks_get hc];exact hrep.2 j y hy) hok hfresh) hb hg hat
theorem N_make (d:Kd α) {w0 W:World} (base e:Nat) (hgd:o.guard=none) {N':Tmp} (hd:o.dst=some N') (t:TypeId) (x y:Operand) (ho:o.op = .makeSlice t x y) (n:Int) (hx:a.eval x = .int .i64 n) (hy:a.eval y = .int .i64 n)
    (ht:P.underlying t=some (.slice e)) (z:Value) (bytes:Nat) (hinfo:(P.info? e).map (fun i=>(i.zero,i.size,i.bytes))=some (some z,d.sz,bytes)) (hz:z.cells.size=d.sz) (hs0:0 < d.sz) (hb0:0 < bytes)
    (z0:α) {ok okp:Nat→Prop} (hzero:FK d W okp z0 z.cells.toList) (hok:∀ k,okp k→ok k) (hfresh:ok W.heap.size) (h0:0≤n) (hl:n.toNat * bytes≤281474976710656) (HB:Below base w0 W) (hbase:base≤W.heap.size)
    (h:∀ v1 w1,N d e w1 base ok v1 (List.replicate n.toNat z0)→Below base w0 w1→W.grownBy w1 none→(∃ b,v1.ownBlock=some b∧W.heap.size≤b)→wpList P ops Q rest (a.put o.dst v1) w1) :
    wpList P ops Q (o :: rest) a W:=by
  refine R_make (raw d.sz) base e hgd hd t x y ho n hx hy ht z bytes hinfo hz hs0 hb0 z.cells.toList (ok:=fun k=>k=W.heap.size) (okp:=fun _=>False) (FK_raw hzero) (fun _ hk=>hk.elim) rfl h0 hl HB hbase ?_
  intro v1 w1 hr hb hg hat
  refine h v1 w1 (N_made hr hg hat (by rw [List.length_replicate,List.length_replicate]) (fun j y c hy hc=>?_) hok hfresh) hb hg hat
  have h1:=(List.getElem?_eq_some_iff.1 hy).2
  have h2:=(List.getElem?_eq_some_iff.1 hc).2
  rw [List.getElem_replicate] at h1 h2
  rw [← h1,← h2]
  exact hzero
end
end Kd
end Go.Proofs.YtnkpakakgfkpbaaW.PrintWords

end
section
namespace Go.Proofs.YtnkpakakgfkpbaaW.PrintMore
open Go.RowKit Go.Proofs.YtnkpakakgfkpbaaW.PrintWords
namespace Kd
open Go.Proofs.YtnkpakakgfkpbaaW.PrintWords.Kd
end Kd
namespace Kd
open Go.Proofs.YtnkpakakgfkpbaaW.PrintWords.Kd
section
variable {α:Type} {d:Kd α} {e base g N:Nat} {ok:Nat→Prop} {W w1:World} {u v:Value} {xs:List α}
theorem R_old (hu:d.R e W base ok u xs) (hb:Below W.heap.size W w1):d.R e w1 base (fun k=>ok k∧k < W.heap.size) u xs:=
  R_mono (R_below (R_bound hu) hb) (fun _ h=>⟨h.1,h.2.2.1⟩)
theorem R_told (h:d.R e w1 base (fun k=>ok k∧k < N) u xs) (hbase:∀ k,v.ownBlock=some k→N≤k):d.R e w1 base (fun k=>(ok k∧some k≠v.ownBlock)∧k < N) u xs:=
  R_mono h (fun k hk=>⟨⟨hk.1,fun e=>Nat.lt_irrefl _ (Nat.lt_of_lt_of_le hk.2 (hbase k e.symm))⟩,hk.2⟩)
end
end Kd
theorem max2_int (k k':IntKind) (x y:Int):Builtin.max2 (.int k x) (.int k' y)=pure (.int k (if x < y then y else x)):=by simp only [Builtin.max2,gt_iff_lt]
theorem max_two (ats:Array TypeId) (ty:TypeId) (a b:Value):Builtin.max_ ats ty #[a,b]=(Builtin.max2 a b >>= fun s=>pure s):=by simp only [Builtin.max_,List.foldlM_cons,List.foldlM_nil]
end Go.Proofs.YtnkpakakgfkpbaaW.PrintMore
namespace Go.Proofs.YtnkpakakgfkpbaaW.PrintWords
open Go.RowKit
section
variable {P:Program} {ops:Array Oper} {rest:List Oper} {o:Oper} {a:Act} {Q:Exit→Act→World→Prop} {W:World}
theorem gate_callee {f:FuncId} {a_s:Array Operand} {ts:Array TypeId} (_ho:o.op = .call { callee:=.value (.func f),args:=a_s,argTypes:=ts }) (h:wpList P ops Q (o :: rest) a W):wpList P ops Q (o :: rest) a W:=h
theorem gate_builtin {b:Builtin} {xs:Array Operand} {ts:Array TypeId} (_ho:o.op = .call { callee:=.builtin b,args:=xs,argTypes:=ts }) (h:wpList P ops Q (o :: rest) a W):wpList P ops Q (o :: rest) a W:=h
end
def mx (a b:Int):Int:=if a < b then b else a
def shl (k:IntKind) (x y:Int):Int:=k.wrap (x * 2 ^ min y.toNat k.bits)
theorem shl_small {k:IntKind} {x y j:Int} (h:shl k x y=j) (hy:y≤k.bits):k.wrap (x * 2 ^ y.toNat)=j:=by rw [← h];unfold shl;rw [Nat.min_eq_left (by omega)]
theorem drewN_self (w:World) (n:Nat):w.drewN n=w.drewN n:=rfl
namespace Kd
section
variable {α:Type} {d:Kd α} {e base:Nat} {ok:Nat→Prop} {W w1:World} {v:Value} {xs:List α}
end
section
variable {α:Type} {d:Kd α} {e base g n cap:Nat} {ok oki okp:Nat→Prop} {W:World} {xs:List α} {i:Int} {c:List Value}
end
section
variable {α:Type} {d:Kd α} {e base b b' g N:Nat} {ok ok1:Nat→Prop} {W W2 w1:World} {u v:Value} {xs ys:List α} {S:Nat→Prop}
theorem R_reok (hE:d.E = []) (h:d.R e W base ok1 v xs) (hok:∀ k,v.ownBlock=some k→ok k):d.R e W base ok v xs:=R_mono (R_tight hE h) (fun k hk=>hok k hk.symm)
end
end Kd
end Go.Proofs.YtnkpakakgfkpbaaW.PrintWords
namespace Go.Proofs.YtnkpakakgfkpbaaW.PrintWords
open Go.RowKit
namespace Kd
def V {α:Type} (d:Kd α) (_e:Nat) (W:World) (_base:Nat) (ok:Nat→Prop) (v:Value) (xs:List α):Prop:=∃ A c,v = .slice A xs.length c∧xs.length≤c∧F d W ok A xs.length xs
section
variable {α β:Type} {d:Kd α} {e base base' n m c g N' lo hi:Nat} {ok ok' S:Nat→Prop} {w W w1:World} {A:Option Addr} {ad:Addr} {u v v1:Value} {xs:List α}
theorem V_map (h:V d e W base ok v xs) (hF:∀ A,F d W ok A xs.length xs→F d w1 ok' A xs.length xs):V d e w1 base' ok' v xs:=by
  obtain ⟨A,c,hv,hl,hf⟩:=h
  exact ⟨A,c,hv,hl,hF A hf⟩
theorem V_mk (hl:xs.length≤c) (hf:F d W ok A xs.length xs):V d e W base ok (.slice A xs.length c) xs:=⟨A,c,rfl,hl,hf⟩
theorem V_slice (h:V d e W base ok v xs):∃ A c,v = .slice A xs.length c:=by
  obtain ⟨A,c,hv,_⟩:=h
  exact ⟨A,c,hv⟩
theorem V_at (h:V d e W base ok (.slice A n c) xs):n=xs.length∧n≤c∧F d W ok A xs.length xs:=by
  obtain ⟨A',c',hv,hl,hf⟩:=h
  injection hv with ha hn hc
  subst ha;subst hc
  exact ⟨hn,by rw [hn];exact hl,hf⟩
theorem V_reads' (h:V d e W base ok (.slice A n c) xs):n=xs.length∧n≤c∧d.C W A xs.length xs:=⟨(V_at h).1,(V_at h).2.1,F_now (V_at h).2.2⟩
theorem V_F (h:V d e W base ok (.slice A n c) xs):F d W ok A n xs:=by
  obtain ⟨hn,_,hf⟩:=V_at h
  rw [hn]
  exact hf
theorem V_nil (d:Kd α) (e:Nat) (W:World) (base:Nat) (ok:Nat→Prop):V d e W base ok (.slice none 0 0) []:=⟨none,0,rfl,Nat.le_refl _,F_nil d W ok⟩
theorem R_V (h:d.R e W base ok v xs):V d e W base' ok v xs:=by
  obtain ⟨A,c,rfl⟩:=R_slice h
  exact ⟨A,c,rfl,(R_reads' h).2.1,R_F h⟩
theorem V_mono (h:V d e W base ok v xs) (hok:∀ k,ok k→ok' k):V d e W base ok' v xs:=V_map h (fun _ hf=>F_mono hf hok)
theorem V_bound (h:V d e W base ok v xs):V d e W base (fun k=>ok k∧k < W.heap.size) v xs:=V_map h (fun _ hf=>F_bound hf)
theorem V_lower (h:V d e W base ok v xs) (_:base'≤base):V d e W base' ok v xs:=h
theorem V_below (h:V d e W base ok v xs) (hb:Below W.heap.size W w1):V d e w1 base ok v xs:=V_map h (fun _ hf=>F_below hf hb)
theorem V_drew (h:V d e W base ok v xs):V d e W.drew base ok v xs:=V_map h (fun _ hf=>F_drew hf)
theorem V_far (h:V d e W base ok v xs) {p:Addr} (hok:∀ k,ok k→k≠p.block) (u:Value):V d e (W.setCell p u) base ok v xs:=V_map h (fun _ hf=>F_far hf hok u)
theorem V_kept (h:V d e W base ok v xs) (hk:Kept W w1 S) (hok:∀ k,ok k→¬ S k):V d e w1 base ok v xs:=V_map h (fun _ hf=>F_kept hf hk hok)
theorem V_after (h:V d e W base (fun k=>ok k∧some k≠u.ownBlock) v xs) (hg:W.grownBy w1 u.ownBlock) (hat:v1.ownBlock=u.ownBlock∨∃ b,v1.ownBlock=some b∧W.heap.size≤b):V d e w1 base (fun k=>ok k∧some k≠v1.ownBlock) v xs:=V_map h (fun _ hf=>F_after hf hg hat)
theorem V_afterv (h:V d e W base (fun k=>ok k∧some k≠v.ownBlock) u xs) (hg:W.grownBy w1 v.ownBlock) (hat:v1.ownBlock=v.ownBlock∨∃ b,v1.ownBlock=some b∧W.heap.size≤b):V d e w1 base (fun k=>ok k∧some k≠v1.ownBlock) u xs:=V_after h hg hat
theorem N_afterv (h:N d e W base (fun k=>ok k∧some k≠v.ownBlock) u xs) (hg:W.grownBy w1 v.ownBlock) (hat:v1.ownBlock=v.ownBlock∨∃ b,v1.ownBlock=some b∧W.heap.size≤b):N d e w1 base (fun k=>ok k∧some k≠v1.ownBlock) u xs:=N_after h hg hat
theorem V_elder' (h:V d e W base ok v xs) (hbase:∀ k,u.ownBlock=some k→W.heap.size≤k) (hb:Below W.heap.size W w1):V d e w1 base (fun k=>ok k∧some k≠u.ownBlock) v xs:=V_map h (fun _ hf=>F_elder' hf hbase hb)
theorem V_elderB (h:V d e W base ok v xs) (a:Nat) (ha:W.heap.size≤a):V d e W base (fun k=>ok k∧k≠a) v xs:=V_map h (fun _ hf=>F_elderB hf a ha)
theorem V_old (h:V d e W base ok v xs) (hb:Below W.heap.size W w1):V d e w1 base (fun k=>ok k∧k < W.heap.size) v xs:=V_map h (fun _ hf=>F_old hf hb)
theorem V_told (h:V d e w1 base (fun k=>ok k∧k < N') v xs) (hbase:∀ k,u.ownBlock=some k→N'≤k):V d e w1 base (fun k=>(ok k∧some k≠u.ownBlock)∧k < N') v xs:=V_map h (fun _ hf=>F_told hf hbase)
theorem V_keptB (h:V d e W base ok v xs) (hk:Kept W w1 S) (hne:∀ k,ok k→¬ S k):V d e w1 base (fun k=>ok k∧(¬ S k∧k < W.heap.size)) v xs:=
  V_kept (V_mono (V_bound h) (fun k hk=>⟨hk.1,hne k hk.1,hk.2⟩)) hk (fun _ hk=>hk.2.1)
theorem V_get (h:V d e W base ok (.slice (some ad) n c) xs) (z:α) (i:Int) (h0:0≤i) (h1:i < n) :
    ∃ cs,cs.length=d.sz∧FK d W ok (xs.getD i.toNat z) cs∧∀ j u,cs[j]? = some u→W.cell? (ad.add (i.toNat * d.sz + j))=some u:=by
  obtain ⟨ad',cs,he,hcl,hK,hcc,_⟩:=F_get (V_F h) z i h0 h1
  injection he with he
  subst he
  exact ⟨cs,hcl,hK,hcc⟩
theorem R_newM {M:Nat→Prop} (h:d.R e w1 W.heap.size ok v xs) (hle:w.heap.size≤W.heap.size) (hM:∀ k,w.heap.size≤k→M k):d.R e w1 W.heap.size (fun k=>M k∧ok k) v xs:=R_mono (R_bound h) (fun k hk=>⟨hM k (Nat.le_trans hle hk.2.1),hk.1⟩)
end
end Kd
end Go.Proofs.YtnkpakakgfkpbaaW.PrintWords

end
section
namespace Go.Proofs.Ytnkpakakgfkpbaa.P
open Go.RowKit Go.Proofs.YtnkpakakgfkpbaaW.PrintWords Go.Proofs.YtnkpakakgfkpbaaW.PrintLast Go.Proofs.YtnkpakakgfkpbaaW.PrintMore
attribute [local go_sem] max2_int max_two
theorem bytesLess_total (a b:List UInt8):(!(Op.bytesLess a b || a == b))=Op.bytesLess b a:=by
  induction a generalizing b with
  | nil=>cases b <;> simp [Op.bytesLess]
  | cons x a ih=>
    cases b with
    | nil=>simp [Op.bytesLess]
    | cons y b=>
      simp only [Op.bytesLess]
      have:=ih b
      by_cases h:x < y
      · have h2 : ¬ y < x:=by simp only [UInt8.lt_iff_toNat_lt] at *;omega
        have h3:y≠x:=by rintro rfl;exact h2 h
        simp [h,h2,h3]
      · by_cases h2:y < x
        · have h3 : ¬ x=y:=by rintro rfl;exact h h2
          simp [h,h2,h3]
        · have h3:x=y:=by
            apply UInt8.toNat_inj.1;simp only [UInt8.lt_iff_toNat_lt] at *;omega
          subst h3
          simp [h]
          simpa using this
theorem binOp_string_gtr_pp (t:TypeId) (a b:ByteArray):binOp .gtr t (.string a) (.string b)=pure (.bool (Op.bytesLess b.toList a.toList)):=by
  rw [← bytesLess_total];simp [binOp,Op.stringOp]
theorem ne_nil_isEmpty (l:List UInt8):(l != []) = !l.isEmpty:=by cases l <;> rfl
def errW:Option Int→Value
  | none=>.nilIface
  | some c=>.iface 0 (.int .i64 c)
theorem errW_none:errW none = .nilIface:=rfl
theorem errW_some (c:Int):errW (some c) = .iface 0 (.int .i64 c):=rfl
theorem info3:(Try.prog.info? 3).map (fun i=>(i.zero,i.size,i.bytes))=some (some (.int .i64 0),1,8):=by kernel_rfl
theorem info9:(Try.prog.info? 9).map (fun i=>(i.zero,i.size,i.bytes))=some (some (.string ⟨#[]⟩),1,16):=by kernel_rfl
theorem info30:(Try.prog.info? 30).map (fun i=>(i.zero,i.size,i.bytes))=some (some (.agg #[(.int .i64 0),(.slice none 0 0),(.slice none 0 0)]),3,56):=by kernel_rfl
theorem info48:(Try.prog.info? 48).map (fun i=>(i.zero,i.size,i.bytes))=some (some (.agg #[(.int .i64 0),(.int .i64 0),(.int .i64 0),(.slice none 0 0),(.slice none 0 0),(.slice none 0 0),(.slice none 0 0)]),7,120):=by kernel_rfl
theorem info72:(Try.prog.info? 72).map (fun i=>(i.zero,i.size,i.bytes))=some (some (.agg #[(.int .i64 0),(.int .i64 0),(.int .i64 0),(.slice none 0 0),(.slice none 0 0),(.slice none 0 0),(.slice none 0 0)]),7,120):=by kernel_rfl
theorem info87:(Try.prog.info? 87).map (fun i=>(i.zero,i.size,i.bytes))=some (some (.agg #[(.bool false),(.int .i64 0),(.slice none 0 0),(.slice none 0 0)]),4,64):=by kernel_rfl
structure S30 where
  f0:Int
  f1:(List Int)
  f2:(List S30)
def z30:S30:=⟨(0:Int),([]:List Int),([]:List S30)⟩
def F30 (d:Kd S30):Kd S30:=Kd.iso (Kd.pair (Kd.int .i64) (Kd.pair (Kd.slice 3 (Kd.int .i64)) (Kd.slice 30 d))) (fun x:S30=>(x.f0,x.f1,x.f2))
theorem mono30:Kd.Mono F30:=Kd.mono_iso _ (Kd.mono_pair (Kd.mono_const _) (Kd.mono_pair (Kd.mono_const _) (Kd.mono_slice 30 Kd.mono_id)))
theorem sub30:Kd.Sub F30 [3,30]:=Kd.sub_iso _ (Kd.sub_pair (Kd.sub_const _ (by decide)) (Kd.sub_pair (Kd.sub_const _ (by decide)) (Kd.sub_slice 30 (by decide) Kd.sub_id)))
theorem sz30:∀ n,(Kd.upto F30 3 [3,30] n).sz=3:=Kd.upto_sz (fun _=>rfl)
def k30:Kd S30:=Kd.fix F30 3 [3,30] sz30 (Kd.upto_E sub30)
theorem k30_heap:Kd.Heap k30:=Kd.heap_fix (fun _ h_=>Kd.heap_iso _ (Kd.heap_pair (Kd.heap_int .i64) (Kd.heap_pair (Kd.heap_slice 3 (Kd.heap_int .i64)) (Kd.heap_slice 30 h_))))
theorem k30_open {w:World} {x:S30} {cs:List Value} (h:k30.K w x cs):∃ A1 c1 A2 c2,cs = [.int .i64 x.f0,.slice A1 x.f1.length c1,.slice A2 x.f2.length c2]∧x.f1.length≤c1∧(Kd.int .i64).C w A1 x.f1.length x.f1∧x.f2.length≤c2∧k30.C w A2 x.f2.length x.f2:=by
  obtain ⟨n,h⟩:=h
  cases n with
  | zero=>exact h.elim
  | succ n=>
    obtain ⟨_,_,rfl,rfl,⟨_,_,rfl,⟨A1,c1,rfl,l1,g1⟩,⟨A2,c2,rfl,l2,g2⟩⟩⟩:=h
    exact ⟨A1,c1,A2,c2,rfl,l1,g1,l2,Kd.fix_C g2⟩
theorem k30_mk (w:World) (x:S30) {A1:Option Addr} {c1:Nat} (l1:x.f1.length≤c1) (g1:(Kd.int .i64).C w A1 x.f1.length x.f1) {A2:Option Addr} {c2:Nat} (l2:x.f2.length≤c2) (g2:k30.C w A2 x.f2.length x.f2):k30.K w x [.int .i64 x.f0,.slice A1 x.f1.length c1,.slice A2 x.f2.length c2]:=by
  obtain ⟨n2,q2⟩:=Kd.fix_C_back mono30 g2
  have r2:=Kd.upto_C_le mono30 sz30 (show n2≤n2 by omega) q2
  exact ⟨n2 + 1,⟨[.int .i64 x.f0],[.slice A1 x.f1.length c1,.slice A2 x.f2.length c2],rfl,rfl,⟨[.slice A1 x.f1.length c1],[.slice A2 x.f2.length c2],rfl,⟨A1,c1,rfl,l1,g1⟩,⟨A2,c2,rfl,l2,r2⟩⟩⟩⟩
theorem k30_mkM (w:World) (base:Nat) (ok:Nat→Prop) (x:S30) {v1:Value} (g1:(Kd.int .i64).R 3 w base ok v1 x.f1) {v2:Value} (g2:k30.R 30 w base ok v2 x.f2):k30.M w base ok x [.int .i64 x.f0,v1,v2]:=by
  obtain ⟨n2,q2⟩:=Kd.fix_R_back mono30 g2
  have r2:=Kd.upto_R_le mono30 sz30 (show n2≤n2 by omega) q2
  exact ⟨n2 + 1,⟨[.int .i64 x.f0],[v1,v2],rfl,rfl,⟨[v1],[v2],rfl,⟨v1,rfl,g1⟩,⟨v2,rfl,r2⟩⟩⟩⟩
def rd_T30 (xs:List S30) (i:Int):S30:=xs.getD i.toNat z30
theorem at_T30 {w:World} {A:Option Addr} {n:Nat} {xs:List S30} (h:Kd.C k30 w A n xs) (i:Int) (h0:0≤i) (h1:i < n):∃ ad A1 c1 A2 c2,A=some ad∧w.cell? (ad.add (i.toNat * 3))=some (.int .i64 (rd_T30 xs i).f0)∧w.cell? ⟨(ad.add (i.toNat * 3)).block,(ad.add (i.toNat * 3)).off + 1,none⟩=some (.slice A1 (rd_T30 xs i).f1.length c1)∧w.cell? ⟨(ad.add (i.toNat * 3)).block,(ad.add (i.toNat * 3)).off + 2,none⟩=some (.slice A2 (rd_T30 xs i).f2.length c2)∧(rd_T30 xs i).f1.length≤c1∧(Kd.int .i64).C w A1 (rd_T30 xs i).f1.length (rd_T30 xs i).f1∧(rd_T30 xs i).f2.length≤c2∧k30.C w A2 (rd_T30 xs i).f2.length (rd_T30 xs i).f2:=by
  obtain ⟨ad,c,e,_,hK,hc0⟩:=Kd.C_get h z30 i h0 h1
  have hc:∀ j u,c[j]? = some u→w.cell? (ad.add (i.toNat * 3 + j))=some u:=hc0
  obtain ⟨A1,c1,A2,c2,rfl,l1,g1,l2,g2⟩:=k30_open hK
  exact ⟨ad,A1,c1,A2,c2,e,hc 0 _ rfl,by rw [← add_field _ _ 1 (by omega)];exact hc 1 _ rfl,by rw [← add_field _ _ 2 (by omega)];exact hc 2 _ rfl,l1,g1,l2,g2⟩
structure S48 where
  f0:Int
  f1:Int
  f2:S30
  f3:(List ByteArray)
  f4:(List ByteArray)
def z48:S48:=⟨(0:Int),(0:Int),z30,([]:List ByteArray),([]:List ByteArray)⟩
def k48:Kd S48:=Kd.iso (Kd.pair (Kd.int .i64) (Kd.pair (Kd.int .i64) (Kd.pair k30 (Kd.pair (Kd.slice 9 Kd.string) (Kd.slice 9 Kd.string))))) (fun x:S48=>(x.f0,x.f1,x.f2,x.f3,x.f4))
theorem k48_heap:Kd.Heap k48:=Kd.heap_iso _ (Kd.heap_pair (Kd.heap_int .i64) (Kd.heap_pair (Kd.heap_int .i64) (Kd.heap_pair k30_heap (Kd.heap_pair (Kd.heap_slice 9 Kd.heap_string) (Kd.heap_slice 9 Kd.heap_string)))))
theorem k48_open {w:World} {x:S48} {cs:List Value} (h:k48.K w x cs):∃ A3 c3 A4 c4 A5 c5 A6 c6,cs = [.int .i64 x.f0,.int .i64 x.f1,.int .i64 x.f2.f0,.slice A3 x.f2.f1.length c3,.slice A4 x.f2.f2.length c4,.slice A5 x.f3.length c5,.slice A6 x.f4.length c6]∧x.f2.f1.length≤c3∧(Kd.int .i64).C w A3 x.f2.f1.length x.f2.f1∧x.f2.f2.length≤c4∧k30.C w A4 x.f2.f2.length x.f2.f2∧x.f3.length≤c5∧Kd.string.C w A5 x.f3.length x.f3∧x.f4.length≤c6∧Kd.string.C w A6 x.f4.length x.f4:=by
  obtain ⟨_,_,rfl,rfl,⟨_,_,rfl,rfl,⟨_,_,rfl,s2,⟨_,_,rfl,⟨A5,c5,rfl,l5,g5⟩,⟨A6,c6,rfl,l6,g6⟩⟩⟩⟩⟩:=h
  obtain ⟨A3,c3,A4,c4,rfl,l3,g3,l4,g4⟩:=k30_open s2
  exact ⟨A3,c3,A4,c4,A5,c5,A6,c6,rfl,l3,g3,l4,g4,l5,g5,l6,g6⟩
theorem k48_mk (w:World) (x:S48) {A3:Option Addr} {c3:Nat} (l3:x.f2.f1.length≤c3) (g3:(Kd.int .i64).C w A3 x.f2.f1.length x.f2.f1) {A4:Option Addr} {c4:Nat} (l4:x.f2.f2.length≤c4) (g4:k30.C w A4 x.f2.f2.length x.f2.f2) {A5:Option Addr} {c5:Nat} (l5:x.f3.length≤c5) (g5:Kd.string.C w A5 x.f3.length x.f3) {A6:Option Addr} {c6:Nat} (l6:x.f4.length≤c6) (g6:Kd.string.C w A6 x.f4.length x.f4):k48.K w x [.int .i64 x.f0,.int .i64 x.f1,.int .i64 x.f2.f0,.slice A3 x.f2.f1.length c3,.slice A4 x.f2.f2.length c4,.slice A5 x.f3.length c5,.slice A6 x.f4.length c6]:=⟨[.int .i64 x.f0],[.int .i64 x.f1,.int .i64 x.f2.f0,.slice A3 x.f2.f1.length c3,.slice A4 x.f2.f2.length c4,.slice A5 x.f3.length c5,.slice A6 x.f4.length c6],rfl,rfl,⟨[.int .i64 x.f1],[.int .i64 x.f2.f0,.slice A3 x.f2.f1.length c3,.slice A4 x.f2.f2.length c4,.slice A5 x.f3.length c5,.slice A6 x.f4.length c6],rfl,rfl,⟨[.int .i64 x.f2.f0,.slice A3 x.f2.f1.length c3,.slice A4 x.f2.f2.length c4],[.slice A5 x.f3.length c5,.slice A6 x.f4.length c6],rfl,(k30_mk w x.f2 l3 g3 l4 g4),⟨[.slice A5 x.f3.length c5],[.slice A6 x.f4.length c6],rfl,⟨A5,c5,rfl,l5,g5⟩,⟨A6,c6,rfl,l6,g6⟩⟩⟩⟩⟩
theorem k48_mkM (w:World) (base:Nat) (ok:Nat→Prop) (x:S48) {v3:Value} (g3:(Kd.int .i64).R 3 w base ok v3 x.f2.f1) {v4:Value} (g4:k30.R 30 w base ok v4 x.f2.f2) {v5:Value} (g5:Kd.string.R 9 w base ok v5 x.f3) {v6:Value} (g6:Kd.string.R 9 w base ok v6 x.f4):k48.M w base ok x [.int .i64 x.f0,.int .i64 x.f1,.int .i64 x.f2.f0,v3,v4,v5,v6]:=⟨[.int .i64 x.f0],[.int .i64 x.f1,.int .i64 x.f2.f0,v3,v4,v5,v6],rfl,rfl,⟨[.int .i64 x.f1],[.int .i64 x.f2.f0,v3,v4,v5,v6],rfl,rfl,⟨[.int .i64 x.f2.f0,v3,v4],[v5,v6],rfl,(k30_mkM w base ok x.f2 g3 g4),⟨[v5],[v6],rfl,⟨v5,rfl,g5⟩,⟨v6,rfl,g6⟩⟩⟩⟩⟩
theorem k48_openF {W:World} {ok:Nat→Prop} {x:S48} {cs:List Value} (h:Kd.FK k48 W ok x cs):∃ A3 c3 A4 c4 A5 c5 A6 c6,cs = [.int .i64 x.f0,.int .i64 x.f1,.int .i64 x.f2.f0,.slice A3 x.f2.f1.length c3,.slice A4 x.f2.f2.length c4,.slice A5 x.f3.length c5,.slice A6 x.f4.length c6]∧x.f2.f1.length≤c3∧Kd.F (Kd.int .i64) W ok A3 x.f2.f1.length x.f2.f1∧x.f2.f2.length≤c4∧Kd.F k30 W ok A4 x.f2.f2.length x.f2.f2∧x.f3.length≤c5∧Kd.F Kd.string W ok A5 x.f3.length x.f3∧x.f4.length≤c6∧Kd.F Kd.string W ok A6 x.f4.length x.f4:=by
  obtain ⟨A3,c3,A4,c4,A5,c5,A6,c6,rfl,l3,_,l4,_,l5,_,l6,_⟩:=k48_open (Kd.FK_now h)
  exact ⟨A3,c3,A4,c4,A5,c5,A6,c6,rfl,l3,(fun W' hW=>by obtain ⟨A3_,c3_,A4_,c4_,A5_,c5_,A6_,c6_,he,l3_,g3_,l4_,g4_,l5_,g5_,l6_,g6_⟩:=k48_open (h W' hW);injection (Option.some.inj (show some (Value.slice A3 x.f2.f1.length c3)=some (Value.slice A3_ x.f2.f1.length c3_) from congrArg (fun l=>l[3]?) he)) with ha_ _ _;rw [ha_];exact g3_),l4,(fun W' hW=>by obtain ⟨A3_,c3_,A4_,c4_,A5_,c5_,A6_,c6_,he,l3_,g3_,l4_,g4_,l5_,g5_,l6_,g6_⟩:=k48_open (h W' hW);injection (Option.some.inj (show some (Value.slice A4 x.f2.f2.length c4)=some (Value.slice A4_ x.f2.f2.length c4_) from congrArg (fun l=>l[4]?) he)) with ha_ _ _;rw [ha_];exact g4_),l5,(fun W' hW=>by obtain ⟨A3_,c3_,A4_,c4_,A5_,c5_,A6_,c6_,he,l3_,g3_,l4_,g4_,l5_,g5_,l6_,g6_⟩:=k48_open (h W' hW);injection (Option.some.inj (show some (Value.slice A5 x.f3.length c5)=some (Value.slice A5_ x.f3.length c5_) from congrArg (fun l=>l[5]?) he)) with ha_ _ _;rw [ha_];exact g5_),l6,(fun W' hW=>by obtain ⟨A3_,c3_,A4_,c4_,A5_,c5_,A6_,c6_,he,l3_,g3_,l4_,g4_,l5_,g5_,l6_,g6_⟩:=k48_open (h W' hW);injection (Option.some.inj (show some (Value.slice A6 x.f4.length c6)=some (Value.slice A6_ x.f4.length c6_) from congrArg (fun l=>l[6]?) he)) with ha_ _ _;rw [ha_];exact g6_)⟩
theorem k48_mkF (W:World) (ok:Nat→Prop) (x:S48) {A3:Option Addr} {c3:Nat} (l3:x.f2.f1.length≤c3) (g3:Kd.F (Kd.int .i64) W ok A3 x.f2.f1.length x.f2.f1) {A4:Option Addr} {c4:Nat} (l4:x.f2.f2.length≤c4) (g4:Kd.F k30 W ok A4 x.f2.f2.length x.f2.f2) {A5:Option Addr} {c5:Nat} (l5:x.f3.length≤c5) (g5:Kd.F Kd.string W ok A5 x.f3.length x.f3) {A6:Option Addr} {c6:Nat} (l6:x.f4.length≤c6) (g6:Kd.F Kd.string W ok A6 x.f4.length x.f4):Kd.FK k48 W ok x [.int .i64 x.f0,.int .i64 x.f1,.int .i64 x.f2.f0,.slice A3 x.f2.f1.length c3,.slice A4 x.f2.f2.length c4,.slice A5 x.f3.length c5,.slice A6 x.f4.length c6]:=fun W2 hW=>k48_mk W2 x l3 (g3 W2 hW) l4 (g4 W2 hW) l5 (g5 W2 hW) l6 (g6 W2 hW)
def rd_T48 (xs:List S48) (i:Int):S48:=xs.getD i.toNat z48
theorem at_T48 {w:World} {A:Option Addr} {n:Nat} {xs:List S48} (h:Kd.C k48 w A n xs) (i:Int) (h0:0≤i) (h1:i < n):∃ ad A3 c3 A4 c4 A5 c5 A6 c6,A=some ad∧w.cell? (ad.add (i.toNat * 7))=some (.int .i64 (rd_T48 xs i).f0)∧w.cell? ⟨(ad.add (i.toNat * 7)).block,(ad.add (i.toNat * 7)).off + 1,none⟩=some (.int .i64 (rd_T48 xs i).f1)∧w.cell? ⟨(ad.add (i.toNat * 7)).block,(ad.add (i.toNat * 7)).off + 2,none⟩=some (.int .i64 (rd_T48 xs i).f2.f0)∧w.cell? ⟨(ad.add (i.toNat * 7)).block,(ad.add (i.toNat * 7)).off + 3,none⟩=some (.slice A3 (rd_T48 xs i).f2.f1.length c3)∧w.cell? ⟨(ad.add (i.toNat * 7)).block,(ad.add (i.toNat * 7)).off + 4,none⟩=some (.slice A4 (rd_T48 xs i).f2.f2.length c4)∧w.cell? ⟨(ad.add (i.toNat * 7)).block,(ad.add (i.toNat * 7)).off + 5,none⟩=some (.slice A5 (rd_T48 xs i).f3.length c5)∧w.cell? ⟨(ad.add (i.toNat * 7)).block,(ad.add (i.toNat * 7)).off + 6,none⟩=some (.slice A6 (rd_T48 xs i).f4.length c6)∧(rd_T48 xs i).f2.f1.length≤c3∧(Kd.int .i64).C w A3 (rd_T48 xs i).f2.f1.length (rd_T48 xs i).f2.f1∧(rd_T48 xs i).f2.f2.length≤c4∧k30.C w A4 (rd_T48 xs i).f2.f2.length (rd_T48 xs i).f2.f2∧(rd_T48 xs i).f3.length≤c5∧Kd.string.C w A5 (rd_T48 xs i).f3.length (rd_T48 xs i).f3∧(rd_T48 xs i).f4.length≤c6∧Kd.string.C w A6 (rd_T48 xs i).f4.length (rd_T48 xs i).f4:=by
  obtain ⟨ad,c,e,_,hK,hc0⟩:=Kd.C_get h z48 i h0 h1
  have hc:∀ j u,c[j]? = some u→w.cell? (ad.add (i.toNat * 7 + j))=some u:=hc0
  obtain ⟨A3,c3,A4,c4,A5,c5,A6,c6,rfl,l3,g3,l4,g4,l5,g5,l6,g6⟩:=k48_open hK
  exact ⟨ad,A3,c3,A4,c4,A5,c5,A6,c6,e,hc 0 _ rfl,by rw [← add_field _ _ 1 (by omega)];exact hc 1 _ rfl,by rw [← add_field _ _ 2 (by omega)];exact hc 2 _ rfl,by rw [← add_field _ _ 3 (by omega)];exact hc 3 _ rfl,by rw [← add_field _ _ 4 (by omega)];exact hc 4 _ rfl,by rw [← add_field _ _ 5 (by omega)];exact hc 5 _ rfl,by rw [← add_field _ _ 6 (by omega)];exact hc 6 _ rfl,l3,g3,l4,g4,l5,g5,l6,g6⟩
structure S117 where
  f0:Int
  f1:Int
def z117:S117:=⟨(0:Int),(0:Int)⟩
def k117:Kd S117:=Kd.iso (Kd.pair (Kd.int .i64) (Kd.int .i64)) (fun x:S117=>(x.f0,x.f1))
theorem k117_open {w:World} {x:S117} {cs:List Value} (h:k117.K w x cs):cs = [.int .i64 x.f0,.int .i64 x.f1]:=by
  obtain ⟨_,_,rfl,rfl,rfl⟩:=h
  exact rfl
def rd_T117 (xs:List S117) (i:Int):S117:=xs.getD i.toNat z117
theorem at_T117 {w:World} {A:Option Addr} {n:Nat} {xs:List S117} (h:Kd.C k117 w A n xs) (i:Int) (h0:0≤i) (h1:i < n):∃ ad,A=some ad∧w.cell? (ad.add (i.toNat * 2))=some (.int .i64 (rd_T117 xs i).f0)∧w.cell? ⟨(ad.add (i.toNat * 2)).block,(ad.add (i.toNat * 2)).off + 1,none⟩=some (.int .i64 (rd_T117 xs i).f1):=by
  obtain ⟨ad,c,e,_,hK,hc0⟩:=Kd.C_get h z117 i h0 h1
  have hc:∀ j u,c[j]? = some u→w.cell? (ad.add (i.toNat * 2 + j))=some u:=hc0
  obtain rfl:=k117_open hK
  exact ⟨ad,e,hc 0 _ rfl,by rw [← add_field _ _ 1 (by omega)];exact hc 1 _ rfl⟩
structure S72 where
  f0:Int
  f1:Int
  f2:S30
  f3:(List S117)
  f4:(List S117)
def z72:S72:=⟨(0:Int),(0:Int),z30,([]:List S117),([]:List S117)⟩
def k72:Kd S72:=Kd.iso (Kd.pair (Kd.int .i64) (Kd.pair (Kd.int .i64) (Kd.pair k30 (Kd.pair (Kd.slice 117 k117) (Kd.slice 117 k117))))) (fun x:S72=>(x.f0,x.f1,x.f2,x.f3,x.f4))
theorem k72_open {w:World} {x:S72} {cs:List Value} (h:k72.K w x cs):∃ A3 c3 A4 c4 A5 c5 A6 c6,cs = [.int .i64 x.f0,.int .i64 x.f1,.int .i64 x.f2.f0,.slice A3 x.f2.f1.length c3,.slice A4 x.f2.f2.length c4,.slice A5 x.f3.length c5,.slice A6 x.f4.length c6]∧x.f2.f1.length≤c3∧(Kd.int .i64).C w A3 x.f2.f1.length x.f2.f1∧x.f2.f2.length≤c4∧k30.C w A4 x.f2.f2.length x.f2.f2∧x.f3.length≤c5∧k117.C w A5 x.f3.length x.f3∧x.f4.length≤c6∧k117.C w A6 x.f4.length x.f4:=by
  obtain ⟨_,_,rfl,rfl,⟨_,_,rfl,rfl,⟨_,_,rfl,s2,⟨_,_,rfl,⟨A5,c5,rfl,l5,g5⟩,⟨A6,c6,rfl,l6,g6⟩⟩⟩⟩⟩:=h
  obtain ⟨A3,c3,A4,c4,rfl,l3,g3,l4,g4⟩:=k30_open s2
  exact ⟨A3,c3,A4,c4,A5,c5,A6,c6,rfl,l3,g3,l4,g4,l5,g5,l6,g6⟩
theorem k72_mk (w:World) (x:S72) {A3:Option Addr} {c3:Nat} (l3:x.f2.f1.length≤c3) (g3:(Kd.int .i64).C w A3 x.f2.f1.length x.f2.f1) {A4:Option Addr} {c4:Nat} (l4:x.f2.f2.length≤c4) (g4:k30.C w A4 x.f2.f2.length x.f2.f2) {A5:Option Addr} {c5:Nat} (l5:x.f3.length≤c5) (g5:k117.C w A5 x.f3.length x.f3) {A6:Option Addr} {c6:Nat} (l6:x.f4.length≤c6) (g6:k117.C w A6 x.f4.length x.f4):k72.K w x [.int .i64 x.f0,.int .i64 x.f1,.int .i64 x.f2.f0,.slice A3 x.f2.f1.length c3,.slice A4 x.f2.f2.length c4,.slice A5 x.f3.length c5,.slice A6 x.f4.length c6]:=⟨[.int .i64 x.f0],[.int .i64 x.f1,.int .i64 x.f2.f0,.slice A3 x.f2.f1.length c3,.slice A4 x.f2.f2.length c4,.slice A5 x.f3.length c5,.slice A6 x.f4.length c6],rfl,rfl,⟨[.int .i64 x.f1],[.int .i64 x.f2.f0,.slice A3 x.f2.f1.length c3,.slice A4 x.f2.f2.length c4,.slice A5 x.f3.length c5,.slice A6 x.f4.length c6],rfl,rfl,⟨[.int .i64 x.f2.f0,.slice A3 x.f2.f1.length c3,.slice A4 x.f2.f2.length c4],[.slice A5 x.f3.length c5,.slice A6 x.f4.length c6],rfl,(k30_mk w x.f2 l3 g3 l4 g4),⟨[.slice A5 x.f3.length c5],[.slice A6 x.f4.length c6],rfl,⟨A5,c5,rfl,l5,g5⟩,⟨A6,c6,rfl,l6,g6⟩⟩⟩⟩⟩
theorem k72_mkF (W:World) (ok:Nat→Prop) (x:S72) {A3:Option Addr} {c3:Nat} (l3:x.f2.f1.length≤c3) (g3:Kd.F (Kd.int .i64) W ok A3 x.f2.f1.length x.f2.f1) {A4:Option Addr} {c4:Nat} (l4:x.f2.f2.length≤c4) (g4:Kd.F k30 W ok A4 x.f2.f2.length x.f2.f2) {A5:Option Addr} {c5:Nat} (l5:x.f3.length≤c5) (g5:Kd.F k117 W ok A5 x.f3.length x.f3) {A6:Option Addr} {c6:Nat} (l6:x.f4.length≤c6) (g6:Kd.F k117 W ok A6 x.f4.length x.f4):Kd.FK k72 W ok x [.int .i64 x.f0,.int .i64 x.f1,.int .i64 x.f2.f0,.slice A3 x.f2.f1.length c3,.slice A4 x.f2.f2.length c4,.slice A5 x.f3.length c5,.slice A6 x.f4.length c6]:=fun W2 hW=>k72_mk W2 x l3 (g3 W2 hW) l4 (g4 W2 hW) l5 (g5 W2 hW) l6 (g6 W2 hW)
def rd_T72 (xs:List S72) (i:Int):S72:=xs.getD i.toNat z72
theorem at_T72 {w:World} {A:Option Addr} {n:Nat} {xs:List S72} (h:Kd.C k72 w A n xs) (i:Int) (h0:0≤i) (h1:i < n):∃ ad A3 c3 A4 c4 A5 c5 A6 c6,A=some ad∧w.cell? (ad.add (i.toNat * 7))=some (.int .i64 (rd_T72 xs i).f0)∧w.cell? ⟨(ad.add (i.toNat * 7)).block,(ad.add (i.toNat * 7)).off + 1,none⟩=some (.int .i64 (rd_T72 xs i).f1)∧w.cell? ⟨(ad.add (i.toNat * 7)).block,(ad.add (i.toNat * 7)).off + 2,none⟩=some (.int .i64 (rd_T72 xs i).f2.f0)∧w.cell? ⟨(ad.add (i.toNat * 7)).block,(ad.add (i.toNat * 7)).off + 3,none⟩=some (.slice A3 (rd_T72 xs i).f2.f1.length c3)∧w.cell? ⟨(ad.add (i.toNat * 7)).block,(ad.add (i.toNat * 7)).off + 4,none⟩=some (.slice A4 (rd_T72 xs i).f2.f2.length c4)∧w.cell? ⟨(ad.add (i.toNat * 7)).block,(ad.add (i.toNat * 7)).off + 5,none⟩=some (.slice A5 (rd_T72 xs i).f3.length c5)∧w.cell? ⟨(ad.add (i.toNat * 7)).block,(ad.add (i.toNat * 7)).off + 6,none⟩=some (.slice A6 (rd_T72 xs i).f4.length c6)∧(rd_T72 xs i).f2.f1.length≤c3∧(Kd.int .i64).C w A3 (rd_T72 xs i).f2.f1.length (rd_T72 xs i).f2.f1∧(rd_T72 xs i).f2.f2.length≤c4∧k30.C w A4 (rd_T72 xs i).f2.f2.length (rd_T72 xs i).f2.f2∧(rd_T72 xs i).f3.length≤c5∧k117.C w A5 (rd_T72 xs i).f3.length (rd_T72 xs i).f3∧(rd_T72 xs i).f4.length≤c6∧k117.C w A6 (rd_T72 xs i).f4.length (rd_T72 xs i).f4:=by
  obtain ⟨ad,c,e,_,hK,hc0⟩:=Kd.C_get h z72 i h0 h1
  have hc:∀ j u,c[j]? = some u→w.cell? (ad.add (i.toNat * 7 + j))=some u:=hc0
  obtain ⟨A3,c3,A4,c4,A5,c5,A6,c6,rfl,l3,g3,l4,g4,l5,g5,l6,g6⟩:=k72_open hK
  exact ⟨ad,A3,c3,A4,c4,A5,c5,A6,c6,e,hc 0 _ rfl,by rw [← add_field _ _ 1 (by omega)];exact hc 1 _ rfl,by rw [← add_field _ _ 2 (by omega)];exact hc 2 _ rfl,by rw [← add_field _ _ 3 (by omega)];exact hc 3 _ rfl,by rw [← add_field _ _ 4 (by omega)];exact hc 4 _ rfl,by rw [← add_field _ _ 5 (by omega)];exact hc 5 _ rfl,by rw [← add_field _ _ 6 (by omega)];exact hc 6 _ rfl,l3,g3,l4,g4,l5,g5,l6,g6⟩
structure S87 where
  f0:Bool
  f1:S30
def z87:S87:=⟨false,z30⟩
def k87:Kd S87:=Kd.iso (Kd.pair Kd.bool k30) (fun x:S87=>(x.f0,x.f1))
theorem k87_open {w:World} {x:S87} {cs:List Value} (h:k87.K w x cs):∃ A2 c2 A3 c3,cs = [.bool x.f0,.int .i64 x.f1.f0,.slice A2 x.f1.f1.length c2,.slice A3 x.f1.f2.length c3]∧x.f1.f1.length≤c2∧(Kd.int .i64).C w A2 x.f1.f1.length x.f1.f1∧x.f1.f2.length≤c3∧k30.C w A3 x.f1.f2.length x.f1.f2:=by
  obtain ⟨_,_,rfl,rfl,s1⟩:=h
  obtain ⟨A2,c2,A3,c3,rfl,l2,g2,l3,g3⟩:=k30_open s1
  exact ⟨A2,c2,A3,c3,rfl,l2,g2,l3,g3⟩
theorem k87_mk (w:World) (x:S87) {A2:Option Addr} {c2:Nat} (l2:x.f1.f1.length≤c2) (g2:(Kd.int .i64).C w A2 x.f1.f1.length x.f1.f1) {A3:Option Addr} {c3:Nat} (l3:x.f1.f2.length≤c3) (g3:k30.C w A3 x.f1.f2.length x.f1.f2):k87.K w x [.bool x.f0,.int .i64 x.f1.f0,.slice A2 x.f1.f1.length c2,.slice A3 x.f1.f2.length c3]:=⟨[.bool x.f0],[.int .i64 x.f1.f0,.slice A2 x.f1.f1.length c2,.slice A3 x.f1.f2.length c3],rfl,rfl,(k30_mk w x.f1 l2 g2 l3 g3)⟩
theorem k87_openF {W:World} {ok:Nat→Prop} {x:S87} {cs:List Value} (h:Kd.FK k87 W ok x cs):∃ A2 c2 A3 c3,cs = [.bool x.f0,.int .i64 x.f1.f0,.slice A2 x.f1.f1.length c2,.slice A3 x.f1.f2.length c3]∧x.f1.f1.length≤c2∧Kd.F (Kd.int .i64) W ok A2 x.f1.f1.length x.f1.f1∧x.f1.f2.length≤c3∧Kd.F k30 W ok A3 x.f1.f2.length x.f1.f2:=by
  obtain ⟨A2,c2,A3,c3,rfl,l2,_,l3,_⟩:=k87_open (Kd.FK_now h)
  exact ⟨A2,c2,A3,c3,rfl,l2,(fun W' hW=>by obtain ⟨A2_,c2_,A3_,c3_,he,l2_,g2_,l3_,g3_⟩:=k87_open (h W' hW);injection (Option.some.inj (show some (Value.slice A2 x.f1.f1.length c2)=some (Value.slice A2_ x.f1.f1.length c2_) from congrArg (fun l=>l[2]?) he)) with ha_ _ _;rw [ha_];exact g2_),l3,(fun W' hW=>by obtain ⟨A2_,c2_,A3_,c3_,he,l2_,g2_,l3_,g3_⟩:=k87_open (h W' hW);injection (Option.some.inj (show some (Value.slice A3 x.f1.f2.length c3)=some (Value.slice A3_ x.f1.f2.length c3_) from congrArg (fun l=>l[3]?) he)) with ha_ _ _;rw [ha_];exact g3_)⟩
theorem k87_mkF (W:World) (ok:Nat→Prop) (x:S87) {A2:Option Addr} {c2:Nat} (l2:x.f1.f1.length≤c2) (g2:Kd.F (Kd.int .i64) W ok A2 x.f1.f1.length x.f1.f1) {A3:Option Addr} {c3:Nat} (l3:x.f1.f2.length≤c3) (g3:Kd.F k30 W ok A3 x.f1.f2.length x.f1.f2):Kd.FK k87 W ok x [.bool x.f0,.int .i64 x.f1.f0,.slice A2 x.f1.f1.length c2,.slice A3 x.f1.f2.length c3]:=fun W2 hW=>k87_mk W2 x l2 (g2 W2 hW) l3 (g3 W2 hW)
def rd_T87 (xs:List S87) (i:Int):S87:=xs.getD i.toNat z87
theorem at_T87 {w:World} {A:Option Addr} {n:Nat} {xs:List S87} (h:Kd.C k87 w A n xs) (i:Int) (h0:0≤i) (h1:i < n):∃ ad A2 c2 A3 c3,A=some ad∧w.cell? (ad.add (i.toNat * 4))=some (.bool (rd_T87 xs i).f0)∧w.cell? ⟨(ad.add (i.toNat * 4)).block,(ad.add (i.toNat * 4)).off + 1,none⟩=some (.int .i64 (rd_T87 xs i).f1.f0)∧w.cell? ⟨(ad.add (i.toNat * 4)).block,(ad.add (i.toNat * 4)).off + 2,none⟩=some (.slice A2 (rd_T87 xs i).f1.f1.length c2)∧w.cell? ⟨(ad.add (i.toNat * 4)).block,(ad.add (i.toNat * 4)).off + 3,none⟩=some (.slice A3 (rd_T87 xs i).f1.f2.length c3)∧(rd_T87 xs i).f1.f1.length≤c2∧(Kd.int .i64).C w A2 (rd_T87 xs i).f1.f1.length (rd_T87 xs i).f1.f1∧(rd_T87 xs i).f1.f2.length≤c3∧k30.C w A3 (rd_T87 xs i).f1.f2.length (rd_T87 xs i).f1.f2:=by
  obtain ⟨ad,c,e,_,hK,hc0⟩:=Kd.C_get h z87 i h0 h1
  have hc:∀ j u,c[j]? = some u→w.cell? (ad.add (i.toNat * 4 + j))=some u:=hc0
  obtain ⟨A2,c2,A3,c3,rfl,l2,g2,l3,g3⟩:=k87_open hK
  exact ⟨ad,A2,c2,A3,c3,e,hc 0 _ rfl,by rw [← add_field _ _ 1 (by omega)];exact hc 1 _ rfl,by rw [← add_field _ _ 2 (by omega)];exact hc 2 _ rfl,by rw [← add_field _ _ 3 (by omega)];exact hc 3 _ rfl,l2,g2,l3,g3⟩
theorem blkQ {w w1:World} {g:Nat} {o:Obj} (b:w1.heap[g]? = some o) (h:w1.heap[g]? = some o→w.heap[g]? = some o:=by intro h_;(with_reducible repeat (first|refine blk_drewN ?_ _|refine blk_drew ?_|refine blk_alloc ?_ _));exact h_):w.heap[g]? = some o:=h b
theorem blkP {w w1:World} {g:Nat} {o:Obj} (b:Aside0 (w1.heap[g]? = some o)) (h:w1.heap[g]? = some o→w.heap[g]? = some o:=by intro h_;(with_reducible repeat (first|refine blk_drewN ?_ _|refine blk_drew ?_|refine blk_alloc ?_ _));exact h_):w.heap[g]? = some o:=h b.out
theorem belowP {b:Nat} {w w1 w2:World} (hb:Aside0 (Below b w w1)) (h:Below b w w1→Below b w w2:=by intro h_;repeat (first|(with_reducible first|exact h_|apply below_alloc|apply pw_below_drewN|apply below_drew1|refine below_set ?_ (Aside0.out (by assumption)))|exact h_)):Below b w w2:=h hb.out
theorem Kd.R_q {α:Type} {d:Kd α} {e:TypeId} {w w1:World} {base:Nat} {ok:Nat→Prop} {v:Value} {xs:List α} (b:Kd.R d e w1 base ok v xs) (h:Kd.R d e w1 base ok v xs→Kd.R d e w base ok v xs:=by intro h_;(with_reducible repeat (first|apply Kd.R_alloc|apply Kd.R_drewN|apply Kd.R_drew));exact h_):Kd.R d e w base ok v xs:=h b
theorem Kd.N_q {α:Type} {d:Kd α} {e:TypeId} {w w1:World} {base:Nat} {ok:Nat→Prop} {v:Value} {xs:List α} (b:Kd.N d e w1 base ok v xs) (h:Kd.N d e w1 base ok v xs→Kd.N d e w base ok v xs:=by intro h_;(with_reducible repeat (first|apply Kd.N_alloc|apply Kd.N_drewN|apply Kd.N_drew));exact h_):Kd.N d e w base ok v xs:=h b
theorem Kd.V_q {α:Type} {d:Kd α} {e:TypeId} {w w1:World} {base:Nat} {ok:Nat→Prop} {v:Value} {xs:List α} (b:Kd.V d e w1 base ok v xs) (h:Kd.V d e w1 base ok v xs→Kd.V d e w base ok v xs:=by intro h_;(with_reducible repeat (first|apply Kd.V_alloc|apply Kd.V_drewN|apply Kd.V_drew));exact h_):Kd.V d e w base ok v xs:=h b
theorem Kd.S_q {α:Type} {d:Kd α} {e:TypeId} {w w1:World} {base:Nat} {ok:Nat→Prop} {v:Value} {xs:List α} (b:Kd.S d e w1 base ok v xs) (h:Kd.S d e w1 base ok v xs→Kd.S d e w base ok v xs:=by intro h_;(with_reducible repeat (first|apply Kd.S_alloc|apply Kd.S_drewN|apply Kd.S_drew));exact h_):Kd.S d e w base ok v xs:=h b
theorem rE {P:Prop} (h:P:=by first|rfl|(simp [errW_none,errW_some] <;> rfl)|(simp [errW_none,errW_some,ne_nil_isEmpty];done)|(simp [*,errW_none,errW_some] <;> rfl)):P:=h
theorem rH {P Q:Prop} {α:Type} {y v:α} (e:y=v) (H:P) (h:P→y=v→Q:=by intro H e;first|(rw [e];with_reducible exact H)|(have H2_:=(Option.bind_some _ _).symm.trans H;rw [e];with_reducible exact H2_)|(have H2_:=(Option.bind_some _ _).symm.trans H;with_reducible exact H2_)|with_reducible exact H|(rw [e];exact H)|exact H):Q:=h H e
theorem Kd.C_q {α:Type} {d:Kd α} {w w1:World} {a:Option Addr} {n:Nat} {l:List α} (b:Kd.C d w1 a n l) (h:Kd.C d w1 a n l→Kd.C d w a n l:=by intro h_;repeat (first|exact h_|(with_reducible refine Kd.C_alloc ?_ _)|(with_reducible refine Kd.C_drewN ?_ _)|(with_reducible refine Kd.C_drew ?_))):Kd.C d w a n l:=h b
theorem tz0 {P:Prop} (h:P:=by (try simp only [List.map_toArray,List.map_cons,List.map_nil]);first|done|rfl|(simp only [List.length_drop,List.length_take];rfl)):P:=h
theorem tz1 {P:Prop} (h:P:=by simp only [Act.put,List.setIfInBounds_toArray,List.set_cons_zero,List.set_cons_succ,i64_w,i32_w];rfl):P:=h
theorem tz2 {P:Prop} (h:P:=by first|(with_reducible assumption)|assumption):P:=h
theorem tz3 {P:Prop} (h:P:=by first|rfl|(simp;done)|(simp [*];done)):P:=h
theorem tz4 {P:Prop} (h:P:=by intro w';go_simp;with_reducible rfl):P:=h
theorem tz5 {P:Prop} (h:P:=by rintro w' ⟨s0,s1,s2,s3,s4,s5,s6,s7,s8,s9,s10,s11⟩;go_simp;with_reducible rfl):P:=h
theorem tz6 {P:Prop} (h:P:=by rintro w' ⟨s0,s1,s2,s3⟩;go_simp;with_reducible rfl):P:=h
theorem tz7 {P:Prop} (h:P:=by rintro w' ⟨s0,s1,s2,s3,s4,s5,s6⟩;go_simp;with_reducible rfl):P:=h
theorem tz8 {P:Prop} (h:P:=by simp [Value.ownBlock]):P:=h
theorem ap1 {a0 G:Prop} (x0:a0) (h:Aside0 a0→G):G:=h ⟨x0⟩
theorem ap2 {a0 a1 G:Prop} (x0:a0) (x1:a1) (h:Aside0 a0→Aside0 a1→G):G:=h ⟨x0⟩ ⟨x1⟩
theorem ap3 {a0 a1 a2 G:Prop} (x0:a0) (x1:a1) (x2:a2) (h:Aside0 a0→Aside0 a1→Aside0 a2→G):G:=h ⟨x0⟩ ⟨x1⟩ ⟨x2⟩
theorem ap4 {a0 a1 a2 a3 G:Prop} (x0:a0) (x1:a1) (x2:a2) (x3:a3) (h:Aside0 a0→Aside0 a1→Aside0 a2→Aside0 a3→G):G:=h ⟨x0⟩ ⟨x1⟩ ⟨x2⟩ ⟨x3⟩
theorem ap5 {a0 a1 a2 a3 a4 G:Prop} (x0:a0) (x1:a1) (x2:a2) (x3:a3) (x4:a4) (h:Aside0 a0→Aside0 a1→Aside0 a2→Aside0 a3→Aside0 a4→G):G:=h ⟨x0⟩ ⟨x1⟩ ⟨x2⟩ ⟨x3⟩ ⟨x4⟩
theorem ap6 {a0 a1 a2 a3 a4 a5 G:Prop} (x0:a0) (x1:a1) (x2:a2) (x3:a3) (x4:a4) (x5:a5) (h:Aside0 a0→Aside0 a1→Aside0 a2→Aside0 a3→Aside0 a4→Aside0 a5→G):G:=h ⟨x0⟩ ⟨x1⟩ ⟨x2⟩ ⟨x3⟩ ⟨x4⟩ ⟨x5⟩
theorem ap7 {a0 a1 a2 a3 a4 a5 a6 G:Prop} (x0:a0) (x1:a1) (x2:a2) (x3:a3) (x4:a4) (x5:a5) (x6:a6) (h:Aside0 a0→Aside0 a1→Aside0 a2→Aside0 a3→Aside0 a4→Aside0 a5→Aside0 a6→G):G:=h ⟨x0⟩ ⟨x1⟩ ⟨x2⟩ ⟨x3⟩ ⟨x4⟩ ⟨x5⟩ ⟨x6⟩
theorem ap8 {a0 a1 a2 a3 a4 a5 a6 a7 G:Prop} (x0:a0) (x1:a1) (x2:a2) (x3:a3) (x4:a4) (x5:a5) (x6:a6) (x7:a7) (h:Aside0 a0→Aside0 a1→Aside0 a2→Aside0 a3→Aside0 a4→Aside0 a5→Aside0 a6→Aside0 a7→G):G:=h ⟨x0⟩ ⟨x1⟩ ⟨x2⟩ ⟨x3⟩ ⟨x4⟩ ⟨x5⟩ ⟨x6⟩ ⟨x7⟩
theorem ap9 {a0 a1 a2 a3 a4 a5 a6 a7 a8 G:Prop} (x0:a0) (x1:a1) (x2:a2) (x3:a3) (x4:a4) (x5:a5) (x6:a6) (x7:a7) (x8:a8) (h:Aside0 a0→Aside0 a1→Aside0 a2→Aside0 a3→Aside0 a4→Aside0 a5→Aside0 a6→Aside0 a7→Aside0 a8→G):G:=h ⟨x0⟩ ⟨x1⟩ ⟨x2⟩ ⟨x3⟩ ⟨x4⟩ ⟨x5⟩ ⟨x6⟩ ⟨x7⟩ ⟨x8⟩
theorem ap10 {a0 a1 a2 a3 a4 a5 a6 a7 a8 a9 G:Prop} (x0:a0) (x1:a1) (x2:a2) (x3:a3) (x4:a4) (x5:a5) (x6:a6) (x7:a7) (x8:a8) (x9:a9) (h:Aside0 a0→Aside0 a1→Aside0 a2→Aside0 a3→Aside0 a4→Aside0 a5→Aside0 a6→Aside0 a7→Aside0 a8→Aside0 a9→G):G:=h ⟨x0⟩ ⟨x1⟩ ⟨x2⟩ ⟨x3⟩ ⟨x4⟩ ⟨x5⟩ ⟨x6⟩ ⟨x7⟩ ⟨x8⟩ ⟨x9⟩
theorem ap11 {a0 a1 a2 a3 a4 a5 a6 a7 a8 a9 a10 G:Prop} (x0:a0) (x1:a1) (x2:a2) (x3:a3) (x4:a4) (x5:a5) (x6:a6) (x7:a7) (x8:a8) (x9:a9) (x10:a10) (h:Aside0 a0→Aside0 a1→Aside0 a2→Aside0 a3→Aside0 a4→Aside0 a5→Aside0 a6→Aside0 a7→Aside0 a8→Aside0 a9→Aside0 a10→G):G:=h ⟨x0⟩ ⟨x1⟩ ⟨x2⟩ ⟨x3⟩ ⟨x4⟩ ⟨x5⟩ ⟨x6⟩ ⟨x7⟩ ⟨x8⟩ ⟨x9⟩ ⟨x10⟩
theorem ap12 {a0 a1 a2 a3 a4 a5 a6 a7 a8 a9 a10 a11 G:Prop} (x0:a0) (x1:a1) (x2:a2) (x3:a3) (x4:a4) (x5:a5) (x6:a6) (x7:a7) (x8:a8) (x9:a9) (x10:a10) (x11:a11) (h:Aside0 a0→Aside0 a1→Aside0 a2→Aside0 a3→Aside0 a4→Aside0 a5→Aside0 a6→Aside0 a7→Aside0 a8→Aside0 a9→Aside0 a10→Aside0 a11→G):G:=h ⟨x0⟩ ⟨x1⟩ ⟨x2⟩ ⟨x3⟩ ⟨x4⟩ ⟨x5⟩ ⟨x6⟩ ⟨x7⟩ ⟨x8⟩ ⟨x9⟩ ⟨x10⟩ ⟨x11⟩
theorem ap13 {a0 a1 a2 a3 a4 a5 a6 a7 a8 a9 a10 a11 a12 G:Prop} (x0:a0) (x1:a1) (x2:a2) (x3:a3) (x4:a4) (x5:a5) (x6:a6) (x7:a7) (x8:a8) (x9:a9) (x10:a10) (x11:a11) (x12:a12) (h:Aside0 a0→Aside0 a1→Aside0 a2→Aside0 a3→Aside0 a4→Aside0 a5→Aside0 a6→Aside0 a7→Aside0 a8→Aside0 a9→Aside0 a10→Aside0 a11→Aside0 a12→G):G:=h ⟨x0⟩ ⟨x1⟩ ⟨x2⟩ ⟨x3⟩ ⟨x4⟩ ⟨x5⟩ ⟨x6⟩ ⟨x7⟩ ⟨x8⟩ ⟨x9⟩ ⟨x10⟩ ⟨x11⟩ ⟨x12⟩
theorem ap14 {a0 a1 a2 a3 a4 a5 a6 a7 a8 a9 a10 a11 a12 a13 G:Prop} (x0:a0) (x1:a1) (x2:a2) (x3:a3) (x4:a4) (x5:a5) (x6:a6) (x7:a7) (x8:a8) (x9:a9) (x10:a10) (x11:a11) (x12:a12) (x13:a13) (h:Aside0 a0→Aside0 a1→Aside0 a2→Aside0 a3→Aside0 a4→Aside0 a5→Aside0 a6→Aside0 a7→Aside0 a8→Aside0 a9→Aside0 a10→Aside0 a11→Aside0 a12→Aside0 a13→G):G:=h ⟨x0⟩ ⟨x1⟩ ⟨x2⟩ ⟨x3⟩ ⟨x4⟩ ⟨x5⟩ ⟨x6⟩ ⟨x7⟩ ⟨x8⟩ ⟨x9⟩ ⟨x10⟩ ⟨x11⟩ ⟨x12⟩ ⟨x13⟩
theorem ap15 {a0 a1 a2 a3 a4 a5 a6 a7 a8 a9 a10 a11 a12 a13 a14 G:Prop} (x0:a0) (x1:a1) (x2:a2) (x3:a3) (x4:a4) (x5:a5) (x6:a6) (x7:a7) (x8:a8) (x9:a9) (x10:a10) (x11:a11) (x12:a12) (x13:a13) (x14:a14) (h:Aside0 a0→Aside0 a1→Aside0 a2→Aside0 a3→Aside0 a4→Aside0 a5→Aside0 a6→Aside0 a7→Aside0 a8→Aside0 a9→Aside0 a10→Aside0 a11→Aside0 a12→Aside0 a13→Aside0 a14→G):G:=h ⟨x0⟩ ⟨x1⟩ ⟨x2⟩ ⟨x3⟩ ⟨x4⟩ ⟨x5⟩ ⟨x6⟩ ⟨x7⟩ ⟨x8⟩ ⟨x9⟩ ⟨x10⟩ ⟨x11⟩ ⟨x12⟩ ⟨x13⟩ ⟨x14⟩
theorem ap16 {a0 a1 a2 a3 a4 a5 a6 a7 a8 a9 a10 a11 a12 a13 a14 a15 G:Prop} (x0:a0) (x1:a1) (x2:a2) (x3:a3) (x4:a4) (x5:a5) (x6:a6) (x7:a7) (x8:a8) (x9:a9) (x10:a10) (x11:a11) (x12:a12) (x13:a13) (x14:a14) (x15:a15) (h:Aside0 a0→Aside0 a1→Aside0 a2→Aside0 a3→Aside0 a4→Aside0 a5→Aside0 a6→Aside0 a7→Aside0 a8→Aside0 a9→Aside0 a10→Aside0 a11→Aside0 a12→Aside0 a13→Aside0 a14→Aside0 a15→G):G:=h ⟨x0⟩ ⟨x1⟩ ⟨x2⟩ ⟨x3⟩ ⟨x4⟩ ⟨x5⟩ ⟨x6⟩ ⟨x7⟩ ⟨x8⟩ ⟨x9⟩ ⟨x10⟩ ⟨x11⟩ ⟨x12⟩ ⟨x13⟩ ⟨x14⟩ ⟨x15⟩
theorem ap17 {a0 a1 a2 a3 a4 a5 a6 a7 a8 a9 a10 a11 a12 a13 a14 a15 a16 G:Prop} (x0:a0) (x1:a1) (x2:a2) (x3:a3) (x4:a4) (x5:a5) (x6:a6) (x7:a7) (x8:a8) (x9:a9) (x10:a10) (x11:a11) (x12:a12) (x13:a13) (x14:a14) (x15:a15) (x16:a16) (h:Aside0 a0→Aside0 a1→Aside0 a2→Aside0 a3→Aside0 a4→Aside0 a5→Aside0 a6→Aside0 a7→Aside0 a8→Aside0 a9→Aside0 a10→Aside0 a11→Aside0 a12→Aside0 a13→Aside0 a14→Aside0 a15→Aside0 a16→G):G:=h ⟨x0⟩ ⟨x1⟩ ⟨x2⟩ ⟨x3⟩ ⟨x4⟩ ⟨x5⟩ ⟨x6⟩ ⟨x7⟩ ⟨x8⟩ ⟨x9⟩ ⟨x10⟩ ⟨x11⟩ ⟨x12⟩ ⟨x13⟩ ⟨x14⟩ ⟨x15⟩ ⟨x16⟩
theorem ap18 {a0 a1 a2 a3 a4 a5 a6 a7 a8 a9 a10 a11 a12 a13 a14 a15 a16 a17 G:Prop} (x0:a0) (x1:a1) (x2:a2) (x3:a3) (x4:a4) (x5:a5) (x6:a6) (x7:a7) (x8:a8) (x9:a9) (x10:a10) (x11:a11) (x12:a12) (x13:a13) (x14:a14) (x15:a15) (x16:a16) (x17:a17) (h:Aside0 a0→Aside0 a1→Aside0 a2→Aside0 a3→Aside0 a4→Aside0 a5→Aside0 a6→Aside0 a7→Aside0 a8→Aside0 a9→Aside0 a10→Aside0 a11→Aside0 a12→Aside0 a13→Aside0 a14→Aside0 a15→Aside0 a16→Aside0 a17→G):G:=h ⟨x0⟩ ⟨x1⟩ ⟨x2⟩ ⟨x3⟩ ⟨x4⟩ ⟨x5⟩ ⟨x6⟩ ⟨x7⟩ ⟨x8⟩ ⟨x9⟩ ⟨x10⟩ ⟨x11⟩ ⟨x12⟩ ⟨x13⟩ ⟨x14⟩ ⟨x15⟩ ⟨x16⟩ ⟨x17⟩
theorem ap20 {a0 a1 a2 a3 a4 a5 a6 a7 a8 a9 a10 a11 a12 a13 a14 a15 a16 a17 a18 a19 G:Prop} (x0:a0) (x1:a1) (x2:a2) (x3:a3) (x4:a4) (x5:a5) (x6:a6) (x7:a7) (x8:a8) (x9:a9) (x10:a10) (x11:a11) (x12:a12) (x13:a13) (x14:a14) (x15:a15) (x16:a16) (x17:a17) (x18:a18) (x19:a19) (h:Aside0 a0→Aside0 a1→Aside0 a2→Aside0 a3→Aside0 a4→Aside0 a5→Aside0 a6→Aside0 a7→Aside0 a8→Aside0 a9→Aside0 a10→Aside0 a11→Aside0 a12→Aside0 a13→Aside0 a14→Aside0 a15→Aside0 a16→Aside0 a17→Aside0 a18→Aside0 a19→G):G:=h ⟨x0⟩ ⟨x1⟩ ⟨x2⟩ ⟨x3⟩ ⟨x4⟩ ⟨x5⟩ ⟨x6⟩ ⟨x7⟩ ⟨x8⟩ ⟨x9⟩ ⟨x10⟩ ⟨x11⟩ ⟨x12⟩ ⟨x13⟩ ⟨x14⟩ ⟨x15⟩ ⟨x16⟩ ⟨x17⟩ ⟨x18⟩ ⟨x19⟩
theorem ap21 {a0 a1 a2 a3 a4 a5 a6 a7 a8 a9 a10 a11 a12 a13 a14 a15 a16 a17 a18 a19 a20 G:Prop} (x0:a0) (x1:a1) (x2:a2) (x3:a3) (x4:a4) (x5:a5) (x6:a6) (x7:a7) (x8:a8) (x9:a9) (x10:a10) (x11:a11) (x12:a12) (x13:a13) (x14:a14) (x15:a15) (x16:a16) (x17:a17) (x18:a18) (x19:a19) (x20:a20) (h:Aside0 a0→Aside0 a1→Aside0 a2→Aside0 a3→Aside0 a4→Aside0 a5→Aside0 a6→Aside0 a7→Aside0 a8→Aside0 a9→Aside0 a10→Aside0 a11→Aside0 a12→Aside0 a13→Aside0 a14→Aside0 a15→Aside0 a16→Aside0 a17→Aside0 a18→Aside0 a19→Aside0 a20→G):G:=h ⟨x0⟩ ⟨x1⟩ ⟨x2⟩ ⟨x3⟩ ⟨x4⟩ ⟨x5⟩ ⟨x6⟩ ⟨x7⟩ ⟨x8⟩ ⟨x9⟩ ⟨x10⟩ ⟨x11⟩ ⟨x12⟩ ⟨x13⟩ ⟨x14⟩ ⟨x15⟩ ⟨x16⟩ ⟨x17⟩ ⟨x18⟩ ⟨x19⟩ ⟨x20⟩
theorem cells2 {w:World} {g:Nat} {t:TypeId} {v0 v1:Value} (h:w.heap[g]? = some (.cells #[v0,v1] t (0,0))):w.cell? ⟨g,0,none⟩=some v0∧w.cell? ⟨g,1,none⟩=some v1:=⟨(blk_cell h 0).trans rfl,(blk_cell h 1).trans rfl⟩
theorem cells3 {w:World} {g:Nat} {t:TypeId} {v0 v1 v2:Value} (h:w.heap[g]? = some (.cells #[v0,v1,v2] t (0,0))):w.cell? ⟨g,0,none⟩=some v0∧w.cell? ⟨g,1,none⟩=some v1∧w.cell? ⟨g,2,none⟩=some v2:=⟨(blk_cell h 0).trans rfl,(blk_cell h 1).trans rfl,(blk_cell h 2).trans rfl⟩
theorem cells7 {w:World} {g:Nat} {t:TypeId} {v0 v1 v2 v3 v4 v5 v6:Value} (h:w.heap[g]? = some (.cells #[v0,v1,v2,v3,v4,v5,v6] t (0,0))):w.cell? ⟨g,0,none⟩=some v0∧w.cell? ⟨g,1,none⟩=some v1∧w.cell? ⟨g,2,none⟩=some v2∧w.cell? ⟨g,3,none⟩=some v3∧w.cell? ⟨g,4,none⟩=some v4∧w.cell? ⟨g,5,none⟩=some v5∧w.cell? ⟨g,6,none⟩=some v6:=⟨(blk_cell h 0).trans rfl,(blk_cell h 1).trans rfl,(blk_cell h 2).trans rfl,(blk_cell h 3).trans rfl,(blk_cell h 4).trans rfl,(blk_cell h 5).trans rfl,(blk_cell h 6).trans rfl⟩
theorem cells12 {w:World} {g:Nat} {t:TypeId} {v0 v1 v2 v3 v4 v5 v6 v7 v8 v9 v10 v11:Value} (h:w.heap[g]? = some (.cells #[v0,v1,v2,v3,v4,v5,v6,v7,v8,v9,v10,v11] t (0,0))):w.cell? ⟨g,0,none⟩=some v0∧w.cell? ⟨g,1,none⟩=some v1∧w.cell? ⟨g,2,none⟩=some v2∧w.cell? ⟨g,3,none⟩=some v3∧w.cell? ⟨g,4,none⟩=some v4∧w.cell? ⟨g,5,none⟩=some v5∧w.cell? ⟨g,6,none⟩=some v6∧w.cell? ⟨g,7,none⟩=some v7∧w.cell? ⟨g,8,none⟩=some v8∧w.cell? ⟨g,9,none⟩=some v9∧w.cell? ⟨g,10,none⟩=some v10∧w.cell? ⟨g,11,none⟩=some v11:=⟨(blk_cell h 0).trans rfl,(blk_cell h 1).trans rfl,(blk_cell h 2).trans rfl,(blk_cell h 3).trans rfl,(blk_cell h 4).trans rfl,(blk_cell h 5).trans rfl,(blk_cell h 6).trans rfl,(blk_cell h 7).trans rfl,(blk_cell h 8).trans rfl,(blk_cell h 9).trans rfl,(blk_cell h 10).trans rfl,(blk_cell h 11).trans rfl⟩
theorem froz2 {w:World} {g:Nat} {t:TypeId} {cs:Array Value} (h:w.heap[g]? = some (.cells cs t (0,0))):w.frozen? ⟨g,0,none⟩=false∧w.frozen? ⟨g,1,none⟩=false:=⟨blk_frozen h 0,blk_frozen h 1⟩
theorem froz3 {w:World} {g:Nat} {t:TypeId} {cs:Array Value} (h:w.heap[g]? = some (.cells cs t (0,0))):w.frozen? ⟨g,0,none⟩=false∧w.frozen? ⟨g,1,none⟩=false∧w.frozen? ⟨g,2,none⟩=false:=⟨blk_frozen h 0,blk_frozen h 1,blk_frozen h 2⟩
theorem froz7 {w:World} {g:Nat} {t:TypeId} {cs:Array Value} (h:w.heap[g]? = some (.cells cs t (0,0))):w.frozen? ⟨g,0,none⟩=false∧w.frozen? ⟨g,1,none⟩=false∧w.frozen? ⟨g,2,none⟩=false∧w.frozen? ⟨g,3,none⟩=false∧w.frozen? ⟨g,4,none⟩=false∧w.frozen? ⟨g,5,none⟩=false∧w.frozen? ⟨g,6,none⟩=false:=⟨blk_frozen h 0,blk_frozen h 1,blk_frozen h 2,blk_frozen h 3,blk_frozen h 4,blk_frozen h 5,blk_frozen h 6⟩
theorem froz12 {w:World} {g:Nat} {t:TypeId} {cs:Array Value} (h:w.heap[g]? = some (.cells cs t (0,0))):w.frozen? ⟨g,0,none⟩=false∧w.frozen? ⟨g,1,none⟩=false∧w.frozen? ⟨g,2,none⟩=false∧w.frozen? ⟨g,3,none⟩=false∧w.frozen? ⟨g,4,none⟩=false∧w.frozen? ⟨g,5,none⟩=false∧w.frozen? ⟨g,6,none⟩=false∧w.frozen? ⟨g,7,none⟩=false∧w.frozen? ⟨g,8,none⟩=false∧w.frozen? ⟨g,9,none⟩=false∧w.frozen? ⟨g,10,none⟩=false∧w.frozen? ⟨g,11,none⟩=false:=⟨blk_frozen h 0,blk_frozen h 1,blk_frozen h 2,blk_frozen h 3,blk_frozen h 4,blk_frozen h 5,blk_frozen h 6,blk_frozen h 7,blk_frozen h 8,blk_frozen h 9,blk_frozen h 10,blk_frozen h 11⟩
end Go.Proofs.Ytnkpakakgfkpbaa.P
end
section
namespace Go.Proofs.Ytnkpakakgfkpbaa.P
open Go.RowKit Go.Proofs.YtnkpakakgfkpbaaW.PrintWords Go.Proofs.YtnkpakakgfkpbaaW.PrintLast Go.Proofs.YtnkpakakgfkpbaaW.PrintMore
attribute [local go_sem] max2_int max_two binOp_string_gtr_pp
def cmp_isNaN_int.f (a0:Int):Option (Bool):=some (a0 != a0)
set_option maxHeartbeats 8000000 in
set_option maxRecDepth 100000 in
theorem cmp_isNaN_int.calls (a0:Int) (r:Bool) (w:World) (h:cmp_isNaN_int.f a0=some r) :
  Calls Try.prog 31 #[.int .i64 a0] w fun e w'=>e = .returned (.bool r)∧Drawn0 w w':=by
 have H:(some (a0 != a0))=some r:=h
 clear h
 obtain rfl:=Option.some.inj H
 go_enter Try.func31,Try.ntmps31
 go_wp2
 go_ret
 exact ⟨by first|rfl|(simp;done)|(simp [*];done),by repeat (first|exact Drawn0.refl _|apply Drawn0.step)⟩
def cmp_Compare_int.f (a0:Int) (a1:Int):Option (Int):=(cmp_isNaN_int.f a0).bind fun a3=>((cmp_isNaN_int.f a1).bind fun a2=>(if a3=true then (if a2=true then (some 0) else (some (-1))) else (if a2=true then (some 1) else (if a0 < a1 then (some (-1)) else (if a0 > a1 then (some 1) else (some 0))))))
set_option maxHeartbeats 8000000 in
set_option maxRecDepth 100000 in
theorem cmp_Compare_int.calls (a0:Int) (a1:Int) (r:Int) (w:World) (h:cmp_Compare_int.f a0 a1=some r) :
  Calls Try.prog 15 #[.int .i64 a0,.int .i64 a1] w fun e w'=>e = .returned (.int .i64 r)∧Drawn0 w w':=by
 have H:((cmp_isNaN_int.f a0).bind fun a3=>((cmp_isNaN_int.f a1).bind fun a2=>(if a3=true then (if a2=true then (some 0) else (some (-1))) else (if a2=true then (some 1) else (if a0 < a1 then (some (-1)) else (if a0 > a1 then (some 1) else (some 0)))))))=some r:=h
 clear h
 replace H:=Option.bind_eq_some_iff.mp H
 obtain ⟨a3,a4,H⟩:=H
 replace H:((cmp_isNaN_int.f a1).bind fun a2=>(if a3=true then (if a2=true then (some 0) else (some (-1))) else (if a2=true then (some 1) else (if a0 < a1 then (some (-1)) else (if a0 > a1 then (some 1) else (some 0))))))=some r:=H
 have A3:=Aside0.mk a4
 clear a4
 replace H:=Option.bind_eq_some_iff.mp H
 obtain ⟨a2,a5,H⟩:=H
 replace H:(if a3=true then (if a2=true then (some 0) else (some (-1))) else (if a2=true then (some 1) else (if a0 < a1 then (some (-1)) else (if a0 > a1 then (some 1) else (some 0)))))=some r:=H
 have A4:=Aside0.mk a5
 clear a5
 by_cases c5:a3=true
 ·subst c5
  rw [if_pos rfl] at H
  by_cases c6:a2=true
  ·subst c6
   rw [if_pos rfl] at H
   obtain rfl:=Option.some.inj H
   go_enter Try.func15,Try.ntmps15
   go_wp2_with (first|((with_reducible refine gate_callee (f:=31) rfl ?_);refine goesL_ (some 8) rfl rfl Try.func31 (by kernel_rfl) rfl #[.int .i64 a0] rfl tz0 ?_;(with_reducible refine (cmp_isNaN_int.calls a0 true _ A3.out).mono ?_);rintro e w' ⟨rfl,⟨nd,rfl⟩⟩;refine ⟨_,rfl,?_⟩)|((with_reducible refine gate_callee (f:=31) rfl ?_);refine goesL_ (some 10) rfl rfl Try.func31 (by kernel_rfl) rfl #[.int .i64 a1] rfl tz0 ?_;(with_reducible refine (cmp_isNaN_int.calls a1 true _ A4.out).mono ?_);rintro e w' ⟨rfl,⟨nd,rfl⟩⟩;refine ⟨_,rfl,?_⟩))
   go_ret
   exact ⟨by first|rfl|(simp;done)|(simp [*];done),by repeat (first|exact Drawn0.refl _|apply Drawn0.step)⟩
  ·replace c6:=Bool.eq_false_iff.mpr c6
   subst c6
   rw [if_neg (show ¬ (false=true) by decide)] at H
   obtain rfl:=Option.some.inj H
   go_enter Try.func15,Try.ntmps15
   go_wp2_with (first|((with_reducible refine gate_callee (f:=31) rfl ?_);refine goesL_ (some 8) rfl rfl Try.func31 (by kernel_rfl) rfl #[.int .i64 a0] rfl tz0 ?_;(with_reducible refine (cmp_isNaN_int.calls a0 true _ A3.out).mono ?_);rintro e w' ⟨rfl,⟨nd,rfl⟩⟩;refine ⟨_,rfl,?_⟩)|((with_reducible refine gate_callee (f:=31) rfl ?_);refine goesL_ (some 10) rfl rfl Try.func31 (by kernel_rfl) rfl #[.int .i64 a1] rfl tz0 ?_;(with_reducible refine (cmp_isNaN_int.calls a1 false _ A4.out).mono ?_);rintro e w' ⟨rfl,⟨nd,rfl⟩⟩;refine ⟨_,rfl,?_⟩))
   go_ret
   exact ⟨by first|rfl|(simp;done)|(simp [*];done),by repeat (first|exact Drawn0.refl _|apply Drawn0.step)⟩
 ·replace c5:=Bool.eq_false_iff.mpr c5
  subst c5
  rw [if_neg (show ¬ (false=true) by decide)] at H
  by_cases c7:a2=true
  ·subst c7
   rw [if_pos rfl] at H
   obtain rfl:=Option.some.inj H
   go_enter Try.func15,Try.ntmps15
   go_wp2_with (first|((with_reducible refine gate_callee (f:=31) rfl ?_);refine goesL_ (some 8) rfl rfl Try.func31 (by kernel_rfl) rfl #[.int .i64 a0] rfl tz0 ?_;(with_reducible refine (cmp_isNaN_int.calls a0 false _ A3.out).mono ?_);rintro e w' ⟨rfl,⟨nd,rfl⟩⟩;refine ⟨_,rfl,?_⟩)|((with_reducible refine gate_callee (f:=31) rfl ?_);refine goesL_ (some 10) rfl rfl Try.func31 (by kernel_rfl) rfl #[.int .i64 a1] rfl tz0 ?_;(with_reducible refine (cmp_isNaN_int.calls a1 true _ A4.out).mono ?_);rintro e w' ⟨rfl,⟨nd,rfl⟩⟩;refine ⟨_,rfl,?_⟩))
   go_ret
   exact ⟨by first|rfl|(simp;done)|(simp [*];done),by repeat (first|exact Drawn0.refl _|apply Drawn0.step)⟩
  ·replace c7:=Bool.eq_false_iff.mpr c7
   subst c7
   rw [if_neg (show ¬ (false=true) by decide)] at H
   by_cases c8:a0 < a1
   ·rw [if_pos c8] at H
    have a6:decide (a0 < a1)=true:=decide_eq_true c8
    clear c8
    obtain rfl:=Option.some.inj H
    go_enter Try.func15,Try.ntmps15
    go_wp2_with (first|((with_reducible refine gate_callee (f:=31) rfl ?_);refine goesL_ (some 8) rfl rfl Try.func31 (by kernel_rfl) rfl #[.int .i64 a0] rfl tz0 ?_;(with_reducible refine (cmp_isNaN_int.calls a0 false _ A3.out).mono ?_);rintro e w' ⟨rfl,⟨nd,rfl⟩⟩;refine ⟨_,rfl,?_⟩)|((with_reducible refine gate_callee (f:=31) rfl ?_);refine goesL_ (some 10) rfl rfl Try.func31 (by kernel_rfl) rfl #[.int .i64 a1] rfl tz0 ?_;(with_reducible refine (cmp_isNaN_int.calls a1 false _ A4.out).mono ?_);rintro e w' ⟨rfl,⟨nd,rfl⟩⟩;refine ⟨_,rfl,?_⟩))
    go_ret
    exact ⟨by first|rfl|(simp;done)|(simp [*];done),by repeat (first|exact Drawn0.refl _|apply Drawn0.step)⟩
   ·rw [if_neg c8] at H
    have a6:decide (a0 < a1)=false:=decide_eq_false c8
    clear c8
    by_cases c9:a0 > a1
    ·rw [if_pos c9] at H
     have a7:decide (a1 < a0)=true:=decide_eq_true c9
     clear c9
     obtain rfl:=Option.some.inj H
     go_enter Try.func15,Try.ntmps15
     go_wp2_with (first|((with_reducible refine gate_callee (f:=31) rfl ?_);refine goesL_ (some 8) rfl rfl Try.func31 (by kernel_rfl) rfl #[.int .i64 a0] rfl tz0 ?_;(with_reducible refine (cmp_isNaN_int.calls a0 false _ A3.out).mono ?_);rintro e w' ⟨rfl,⟨nd,rfl⟩⟩;refine ⟨_,rfl,?_⟩)|((with_reducible refine gate_callee (f:=31) rfl ?_);refine goesL_ (some 10) rfl rfl Try.func31 (by kernel_rfl) rfl #[.int .i64 a1] rfl tz0 ?_;(with_reducible refine (cmp_isNaN_int.calls a1 false _ A4.out).mono ?_);rintro e w' ⟨rfl,⟨nd,rfl⟩⟩;refine ⟨_,rfl,?_⟩))
     go_ret
     exact ⟨by first|rfl|(simp;done)|(simp [*];done),by repeat (first|exact Drawn0.refl _|apply Drawn0.step)⟩
    ·rw [if_neg c9] at H
     have a7:decide (a1 < a0)=false:=decide_eq_false c9
     clear c9
     obtain rfl:=Option.some.inj H
     go_enter Try.func15,Try.ntmps15
     go_wp2_with (first|((with_reducible refine gate_callee (f:=31) rfl ?_);refine goesL_ (some 8) rfl rfl Try.func31 (by kernel_rfl) rfl #[.int .i64 a0] rfl tz0 ?_;(with_reducible refine (cmp_isNaN_int.calls a0 false _ A3.out).mono ?_);rintro e w' ⟨rfl,⟨nd,rfl⟩⟩;refine ⟨_,rfl,?_⟩)|((with_reducible refine gate_callee (f:=31) rfl ?_);refine goesL_ (some 10) rfl rfl Try.func31 (by kernel_rfl) rfl #[.int .i64 a1] rfl tz0 ?_;(with_reducible refine (cmp_isNaN_int.calls a1 false _ A4.out).mono ?_);rintro e w' ⟨rfl,⟨nd,rfl⟩⟩;refine ⟨_,rfl,?_⟩))
     go_ret
     exact ⟨by first|rfl|(simp;done)|(simp [*];done),by repeat (first|exact Drawn0.refl _|apply Drawn0.step)⟩
def cmp_isNaN_string.f (a0:ByteArray):Option (Bool):=some (a0.toList != a0.toList)
set_option maxHeartbeats 8000000 in
set_option maxRecDepth 100000 in
theorem cmp_isNaN_string.calls (a0:ByteArray) (r:Bool) (w:World) (h:cmp_isNaN_string.f a0=some r) :
  Calls Try.prog 32 #[.string a0] w fun e w'=>e = .returned (.bool r)∧Drawn0 w w':=by
 have H:(some (a0.toList != a0.toList))=some r:=h
 clear h
 obtain rfl:=Option.some.inj H
 go_enter Try.func32,Try.ntmps32
 go_wp2
 go_ret
 exact ⟨by first|rfl|(simp;done)|(simp [*];done),by repeat (first|exact Drawn0.refl _|apply Drawn0.step)⟩
def cmp_Compare_string.f (a0:ByteArray) (a1:ByteArray):Option (Int):=(cmp_isNaN_string.f a0).bind fun a3=>((cmp_isNaN_string.f a1).bind fun a2=>(if a3=true then (if a2=true then (some 0) else (some (-1))) else (if a2=true then (some 1) else (if (Op.bytesLess a0.toList a1.toList)=true then (some (-1)) else (if (Op.bytesLess a1.toList a0.toList)=true then (some 1) else (some 0))))))
set_option maxHeartbeats 8000000 in
set_option maxRecDepth 100000 in
theorem cmp_Compare_string.calls (a0:ByteArray) (a1:ByteArray) (r:Int) (w:World) (h:cmp_Compare_string.f a0 a1=some r) :
  Calls Try.prog 16 #[.string a0,.string a1] w fun e w'=>e = .returned (.int .i64 r)∧Drawn0 w w':=by
 have H:((cmp_isNaN_string.f a0).bind fun a3=>((cmp_isNaN_string.f a1).bind fun a2=>(if a3=true then (if a2=true then (some 0) else (some (-1))) else (if a2=true then (some 1) else (if (Op.bytesLess a0.toList a1.toList)=true then (some (-1)) else (if (Op.bytesLess a1.toList a0.toList)=true then (some 1) else (some 0)))))))=some r:=h
 clear h
 replace H:=Option.bind_eq_some_iff.mp H
 obtain ⟨a3,a4,H⟩:=H
 replace H:((cmp_isNaN_string.f a1).bind fun a2=>(if a3=true then (if a2=true then (some 0) else (some (-1))) else (if a2=true then (some 1) else (if (Op.bytesLess a0.toList a1.toList)=true then (some (-1)) else (if (Op.bytesLess a1.toList a0.toList)=true then (some 1) else (some 0))))))=some r:=H
 have A3:=Aside0.mk a4
 clear a4
 replace H:=Option.bind_eq_some_iff.mp H
 obtain ⟨a2,a5,H⟩:=H
 replace H:(if a3=true then (if a2=true then (some 0) else (some (-1))) else (if a2=true then (some 1) else (if (Op.bytesLess a0.toList a1.toList)=true then (some (-1)) else (if (Op.bytesLess a1.toList a0.toList)=true then (some 1) else (some 0)))))=some r:=H
 have A4:=Aside0.mk a5
 clear a5
 by_cases c5:a3=true
 ·subst c5
  rw [if_pos rfl] at H
  by_cases c6:a2=true
  ·subst c6
   rw [if_pos rfl] at H
   obtain rfl:=Option.some.inj H
   go_enter Try.func16,Try.ntmps16
   go_wp2_with (first|((with_reducible refine gate_callee (f:=32) rfl ?_);refine goesL_ (some 8) rfl rfl Try.func32 (by kernel_rfl) rfl #[.string a0] rfl tz0 ?_;(with_reducible refine (cmp_isNaN_string.calls a0 true _ A3.out).mono ?_);rintro e w' ⟨rfl,⟨nd,rfl⟩⟩;refine ⟨_,rfl,?_⟩)|((with_reducible refine gate_callee (f:=32) rfl ?_);refine goesL_ (some 10) rfl rfl Try.func32 (by kernel_rfl) rfl #[.string a1] rfl tz0 ?_;(with_reducible refine (cmp_isNaN_string.calls a1 true _ A4.out).mono ?_);rintro e w' ⟨rfl,⟨nd,rfl⟩⟩;refine ⟨_,rfl,?_⟩))
   go_ret
   exact ⟨by first|rfl|(simp;done)|(simp [*];done),by repeat (first|exact Drawn0.refl _|apply Drawn0.step)⟩
  ·replace c6:=Bool.eq_false_iff.mpr c6
   subst c6
   rw [if_neg (show ¬ (false=true) by decide)] at H
   obtain rfl:=Option.some.inj H
   go_enter Try.func16,Try.ntmps16
   go_wp2_with (first|((with_reducible refine gate_callee (f:=32) rfl ?_);refine goesL_ (some 8) rfl rfl Try.func32 (by kernel_rfl) rfl #[.string a0] rfl tz0 ?_;(with_reducible refine (cmp_isNaN_string.calls a0 true _ A3.out).mono ?_);rintro e w' ⟨rfl,⟨nd,rfl⟩⟩;refine ⟨_,rfl,?_⟩)|((with_reducible refine gate_callee (f:=32) rfl ?_);refine goesL_ (some 10) rfl rfl Try.func32 (by kernel_rfl) rfl #[.string a1] rfl tz0 ?_;(with_reducible refine (cmp_isNaN_string.calls a1 false _ A4.out).mono ?_);rintro e w' ⟨rfl,⟨nd,rfl⟩⟩;refine ⟨_,rfl,?_⟩))
   go_ret
   exact ⟨by first|rfl|(simp;done)|(simp [*];done),by repeat (first|exact Drawn0.refl _|apply Drawn0.step)⟩
 ·replace c5:=Bool.eq_false_iff.mpr c5
  subst c5
  rw [if_neg (show ¬ (false=true) by decide)] at H
  by_cases c7:a2=true
  ·subst c7
   rw [if_pos rfl] at H
   obtain rfl:=Option.some.inj H
   go_enter Try.func16,Try.ntmps16
   go_wp2_with (first|((with_reducible refine gate_callee (f:=32) rfl ?_);refine goesL_ (some 8) rfl rfl Try.func32 (by kernel_rfl) rfl #[.string a0] rfl tz0 ?_;(with_reducible refine (cmp_isNaN_string.calls a0 false _ A3.out).mono ?_);rintro e w' ⟨rfl,⟨nd,rfl⟩⟩;refine ⟨_,rfl,?_⟩)|((with_reducible refine gate_callee (f:=32) rfl ?_);refine goesL_ (some 10) rfl rfl Try.func32 (by kernel_rfl) rfl #[.string a1] rfl tz0 ?_;(with_reducible refine (cmp_isNaN_string.calls a1 true _ A4.out).mono ?_);rintro e w' ⟨rfl,⟨nd,rfl⟩⟩;refine ⟨_,rfl,?_⟩))
   go_ret
   exact ⟨by first|rfl|(simp;done)|(simp [*];done),by repeat (first|exact Drawn0.refl _|apply Drawn0.step)⟩
  ·replace c7:=Bool.eq_false_iff.mpr c7
   subst c7
   rw [if_neg (show ¬ (false=true) by decide)] at H
   by_cases c8:(Op.bytesLess a0.toList a1.toList)=true
   ·rw [if_pos c8] at H
    have a6:(Op.bytesLess a0.toList a1.toList)=true:=c8
    clear c8
    obtain rfl:=Option.some.inj H
    go_enter Try.func16,Try.ntmps16
    go_wp2_with (first|((with_reducible refine gate_callee (f:=32) rfl ?_);refine goesL_ (some 8) rfl rfl Try.func32 (by kernel_rfl) rfl #[.string a0] rfl tz0 ?_;(with_reducible refine (cmp_isNaN_string.calls a0 false _ A3.out).mono ?_);rintro e w' ⟨rfl,⟨nd,rfl⟩⟩;refine ⟨_,rfl,?_⟩)|((with_reducible refine gate_callee (f:=32) rfl ?_);refine goesL_ (some 10) rfl rfl Try.func32 (by kernel_rfl) rfl #[.string a1] rfl tz0 ?_;(with_reducible refine (cmp_isNaN_string.calls a1 false _ A4.out).mono ?_);rintro e w' ⟨rfl,⟨nd,rfl⟩⟩;refine ⟨_,rfl,?_⟩))
    go_ret
    exact ⟨by first|rfl|(simp;done)|(simp [*];done),by repeat (first|exact Drawn0.refl _|apply Drawn0.step)⟩
   ·rw [if_neg c8] at H
    have a6:(Op.bytesLess a0.toList a1.toList)=false:=by simpa using c8
    clear c8
    by_cases c9:(Op.bytesLess a1.toList a0.toList)=true
    ·rw [if_pos c9] at H
     have a7:(Op.bytesLess a1.toList a0.toList)=true:=c9
     clear c9
     obtain rfl:=Option.some.inj H
     go_enter Try.func16,Try.ntmps16
     go_wp2_with (first|((with_reducible refine gate_callee (f:=32) rfl ?_);refine goesL_ (some 8) rfl rfl Try.func32 (by kernel_rfl) rfl #[.string a0] rfl tz0 ?_;(with_reducible refine (cmp_isNaN_string.calls a0 false _ A3.out).mono ?_);rintro e w' ⟨rfl,⟨nd,rfl⟩⟩;refine ⟨_,rfl,?_⟩)|((with_reducible refine gate_callee (f:=32) rfl ?_);refine goesL_ (some 10) rfl rfl Try.func32 (by kernel_rfl) rfl #[.string a1] rfl tz0 ?_;(with_reducible refine (cmp_isNaN_string.calls a1 false _ A4.out).mono ?_);rintro e w' ⟨rfl,⟨nd,rfl⟩⟩;refine ⟨_,rfl,?_⟩))
     go_ret
     exact ⟨by first|rfl|(simp;done)|(simp [*];done),by repeat (first|exact Drawn0.refl _|apply Drawn0.step)⟩
    ·rw [if_neg c9] at H
     have a7:(Op.bytesLess a1.toList a0.toList)=false:=by simpa using c9
     clear c9
     obtain rfl:=Option.some.inj H
     go_enter Try.func16,Try.ntmps16
     go_wp2_with (first|((with_reducible refine gate_callee (f:=32) rfl ?_);refine goesL_ (some 8) rfl rfl Try.func32 (by kernel_rfl) rfl #[.string a0] rfl tz0 ?_;(with_reducible refine (cmp_isNaN_string.calls a0 false _ A3.out).mono ?_);rintro e w' ⟨rfl,⟨nd,rfl⟩⟩;refine ⟨_,rfl,?_⟩)|((with_reducible refine gate_callee (f:=32) rfl ?_);refine goesL_ (some 10) rfl rfl Try.func32 (by kernel_rfl) rfl #[.string a1] rfl tz0 ?_;(with_reducible refine (cmp_isNaN_string.calls a1 false _ A4.out).mono ?_);rintro e w' ⟨rfl,⟨nd,rfl⟩⟩;refine ⟨_,rfl,?_⟩))
     go_ret
     exact ⟨by first|rfl|(simp;done)|(simp [*];done),by repeat (first|exact Drawn0.refl _|apply Drawn0.step)⟩
def cmp_Or_int.l0:Nat→Int→List Int→Int→Int→Option (Int)
 | 0,_,_,_,_=>none
 | k + 1,x3,x6,x7,x8=>if x8 < x7 then (if 0≤x8 then (if x8 < (x6.length:Int) then (if (rd x6 x8)=x3 then (cmp_Or_int.l0 k x3 x6 x7 (wrap64 (x8 + 1))) else (some (rd x6 x8))) else (none)) else (none)) else (some x3)
def cmp_Or_int.f (k:Nat) (l0:List Int):Option (Int):=cmp_Or_int.l0 k 0 l0 (l0.length:Int) 0
theorem cmp_Or_int.mono_l:∀ k,(∀ y0 y1 y2 y3,LeO (cmp_Or_int.l0 k y0 y1 y2 y3) (cmp_Or_int.l0 (k + 1) y0 y1 y2 y3))
 | 0=>fun _ _ _ _ r h=>by simp [cmp_Or_int.l0] at h
 | k + 1=>by
  have a4:=cmp_Or_int.mono_l k
  ·intro y0 y1 y2 y3
   unfold cmp_Or_int.l0
   repeat' first
   | (with_reducible exact a4 _ _ _ _)
   | (with_reducible exact LeO.refl _)
   | (with_reducible exact LeO.none _)
   | (with_reducible refine LeO.ite ?_ ?_)
   | (with_reducible refine LeO.bind ?_ (fun _=>?_))
theorem cmp_Or_int.mono:∀ a0 k,LeO (cmp_Or_int.f k a0) (cmp_Or_int.f (k + 1) a0):=by
 intro a0 k
 have a4:=cmp_Or_int.mono_l k
 unfold cmp_Or_int.f
 repeat' first
   | (with_reducible exact a4 _ _ _ _)
   | (with_reducible exact LeO.refl _)
   | (with_reducible exact LeO.none _)
   | (with_reducible refine LeO.ite ?_ ?_)
   | (with_reducible refine LeO.bind ?_ (fun _=>?_))
set_option maxHeartbeats 8000000 in
set_option maxRecDepth 100000 in
theorem cmp_Or_int.calls (k:Nat) (A0:Option Addr) (c0:Nat) (l0:List Int) (r:Int) (w:World) (a6:Kd.C (Kd.int .i64) w A0 l0.length l0) (a7:l0.length≤c0) (h:cmp_Or_int.f k l0=some r) :
  Calls Try.prog 14 #[.slice A0 l0.length c0] w fun e w'=>e = .returned (.int .i64 r)∧Drawn0 w w':=by
 have a8:=Aside0.mk a6
 have b5:=Aside0.mk a7
 clear a6 a7
 have H:(cmp_Or_int.l0 k 0 l0 (l0.length:Int) 0)=some r:=h
 clear h
 have H':=Aside0.mk H
 clear H
 go_enter Try.func14,Try.ntmps14
 go_wp2
 go_loopg [8] k (fun kq v8 w'=>∃ (a1:Int),v8 = .int .i64 a1∧Aside0 (cmp_Or_int.l0 kq 0 l0 (l0.length:Int) a1=some r)∧Aside0 (kq≤k)∧Drawn0 w w')
 case atStart=>exact ⟨(0),tz3,H',⟨Nat.le_refl _⟩,by repeat (first|exact Drawn0.refl _|apply Drawn0.step)⟩
 case round=>
  clear H'
  obtain ⟨a1,rfl,HA,a9,⟨m1,rfl⟩⟩:=hrel
  cases gk with
  | zero=>exact absurd HA.out (by simp [cmp_Or_int.l0])
  | succ k1=>
   have H:=HA.out
   clear HA
   simp only [cmp_Or_int.l0] at H
   by_cases c2:a1 < (l0.length:Int)
   ·rw [if_pos c2] at H
    have b0:decide (a1 < (l0.length:Int))=true:=decide_eq_true c2
    clear c2
    by_cases c3:0≤a1
    ·rw [if_pos c3] at H
     have b6:decide (0≤a1)=true:=decide_eq_true c3
     clear c3
     by_cases c4:a1 < (l0.length:Int)
     ·rw [if_pos c4] at H
      have b7:decide (a1 < (l0.length:Int))=true:=decide_eq_true c4
      clear c4
      by_cases c5:(rd l0 a1)=0
      ·rw [if_pos c5] at H
       have b1:((rd l0 a1) == 0)=true:=beq_iff_eq.mpr c5
       have b2:((rd l0 a1) != 0)=false:=bne_eq_false_iff_eq.mpr c5
       clear c5
       have H':=Aside0.mk H
       clear H
       have a2:0≤(a1:Int):=of_decide_eq_true tz2
       have a3:a1 < (l0.length:Int):=of_decide_eq_true tz2
       obtain ⟨b3,a5,b4⟩:=Kd.at_int a8.out a1 a2 a3
       cases a5
       replace a2:=eq_true a2
       replace a3:=eq_true a3
       go_wp2
       go_roundg k1
       case measure=>have:=a9.out;omega
       case rel=>exact ⟨(wrap64 (a1 + 1)),tz3,H',⟨by have:=a9.out;omega⟩,by repeat (first|exact Drawn0.refl _|apply Drawn0.step)⟩
      ·rw [if_neg c5] at H
       have b1:((rd l0 a1) == 0)=false:=beq_eq_false_iff_ne.mpr c5
       have b2:((rd l0 a1) != 0)=true:=bne_iff_ne.mpr c5
       obtain rfl:=Option.some.inj H
       have a2:0≤(a1:Int):=of_decide_eq_true tz2
       have a3:a1 < (l0.length:Int):=of_decide_eq_true tz2
       obtain ⟨b3,a5,b4⟩:=Kd.at_int a8.out a1 a2 a3
       cases a5
       replace a2:=eq_true a2
       replace a3:=eq_true a3
       go_wp2
       go_ret
       exact ⟨by first|rfl|(simp;done)|(simp [*];done),by repeat (first|exact Drawn0.refl _|apply Drawn0.step)⟩
     ·rw [if_neg c4] at H
      exact absurd H (by simp)
    ·rw [if_neg c3] at H
     exact absurd H (by simp)
   ·rw [if_neg c2] at H
    have b0:decide (a1 < (l0.length:Int))=false:=decide_eq_false c2
    clear c2
    obtain rfl:=Option.some.inj H
    go_wp2
    go_ret
    exact ⟨by first|rfl|(simp;done)|(simp [*];done),by repeat (first|exact Drawn0.refl _|apply Drawn0.step)⟩
def nomination_Compare.f (k:Nat) (a0:ByteArray) (a1:ByteArray):Option (Int):=(cmp_Compare_int.f (a0.size:Int) (a1.size:Int)).bind fun a3=>((cmp_Compare_string.f a0 a1).bind fun a2=>((cmp_Or_int.f k (([a3,a2]:List Int))).bind fun a4=>(some a4)))
theorem nomination_Compare.mono:∀ a0 a1 k,LeO (nomination_Compare.f k a0 a1) (nomination_Compare.f (k + 1) a0 a1):=by
 intro a0 a1 k
 unfold nomination_Compare.f
 repeat' first
   | (with_reducible apply cmp_Or_int.mono)
   | (with_reducible exact LeO.refl _)
   | (with_reducible exact LeO.none _)
   | (with_reducible refine LeO.ite ?_ ?_)
   | (with_reducible refine LeO.bind ?_ (fun _=>?_))
set_option maxHeartbeats 8000000 in
set_option maxRecDepth 100000 in
theorem nomination_Compare.calls (k:Nat) (a0:ByteArray) (a1:ByteArray) (r:Int) (w:World) (h:nomination_Compare.f k a0 a1=some r) :
  Calls Try.prog 9 #[.string a0,.string a1] w fun e w'=>e = .returned (.int .i64 r)∧Below w.heap.size w w':=by
 have HB:=Aside0.mk (Below.refl w.heap.size w)
 have H:((cmp_Compare_int.f (a0.size:Int) (a1.size:Int)).bind fun a3=>((cmp_Compare_string.f a0 a1).bind fun a2=>((cmp_Or_int.f k (([a3,a2]:List Int))).bind fun a4=>(some a4))))=some r:=h
 clear h
 replace H:=Option.bind_eq_some_iff.mp H
 obtain ⟨a3,a9,H⟩:=H
 replace H:((cmp_Compare_string.f a0 a1).bind fun a2=>((cmp_Or_int.f k (([a3,a2]:List Int))).bind fun a4=>(some a4)))=some r:=H
 have A3:=Aside0.mk a9
 clear a9
 replace H:=Option.bind_eq_some_iff.mp H
 obtain ⟨a2,b0,H⟩:=H
 replace H:((cmp_Or_int.f k (([a3,a2]:List Int))).bind fun a4=>(some a4))=some r:=H
 have A4:=Aside0.mk b0
 clear b0
 obtain ⟨a6,a7⟩:∃ y_:List Int,y_=(([a3,a2]:List Int)):=⟨_,rfl⟩
 replace H:((cmp_Or_int.f k a6).bind fun a4=>(some a4))=some r:=rH a7 H
 have b1:=Aside0.mk a7
 clear a7
 replace H:=Option.bind_eq_some_iff.mp H
 obtain ⟨a4,b2,H⟩:=H
 replace H:(some a4)=some r:=H
 have A5:=Aside0.mk b2
 clear b2
 obtain rfl:=Option.some.inj H
 go_enter Try.func9,Try.ntmps9
 go_wp2_with (first|((with_reducible refine gate_callee (f:=15) rfl ?_);refine goesL_ (some 9) rfl rfl Try.func15 (by kernel_rfl) rfl #[.int .i64 (a0.size:Int),.int .i64 (a1.size:Int)] rfl tz0 ?_;(with_reducible refine (cmp_Compare_int.calls (a0.size:Int) (a1.size:Int) a3 _ A3.out).mono ?_);rintro e w' ⟨rfl,⟨nd,rfl⟩⟩;refine ⟨_,rfl,?_⟩)|((with_reducible refine gate_callee (f:=16) rfl ?_);refine goesL_ (some 12) rfl rfl Try.func16 (by kernel_rfl) rfl #[.string a0,.string a1] rfl tz0 ?_;(with_reducible refine (cmp_Compare_string.calls a0 a1 a2 _ A4.out).mono ?_);rintro e w' ⟨rfl,⟨nd,rfl⟩⟩;refine ⟨_,rfl,?_⟩)|((with_reducible refine gate_dst (N:=13) rfl ?_);refine Kd.R_lit (Kd.int .i64) _ 3 ?hg (N:=13) ?hd (xs:=([a3,a2]:List Int)) (inner:=[.int .i64 a3,.int .i64 a2]) (ok:=fun _=>True) (okp:=fun _=>True) ?hr ?hp (fun _ hk=>hk) trivial (Below.refl _ _) (Nat.le_refl _) (by simp) ?_;(case hd=>rfl);(case hg=>rfl);(case hr=>first|(go_simp;done)|(go_simp;rfl));(case hp=>exact (Reps.one (show Kd.M (Kd.int .i64) _ _ _ a3 [.int .i64 a3] from rfl) (Reps.one (show Kd.M (Kd.int .i64) _ _ _ a2 [.int .i64 a2] from rfl) (Reps.none _ _))));intro b6 w6 a5 hb hg_ hnew_;clear hg_ hnew_;(first|rw [← b1.out] at a5|(simp only [Int.reduceToNat] at a5;rw [← b1.out] at a5));refine ap2 (Kd.R_lower a5 (below_size (belowP HB))) (below_step (belowP HB) hb) ?_;clear HB;intro a8 HB;clear hb a5;obtain ⟨b3,b4,b5⟩:=Kd.R_slice a8.out;subst b5)|((with_reducible refine gate_callee (f:=14) rfl ?_);refine goesL_ (some 14) rfl rfl Try.func14 (by kernel_rfl) rfl #[.slice b3 a6.length b4] rfl tz0 ?_;(with_reducible refine (cmp_Or_int.calls k _ _ a6 a4 _ ?side1 ?side2 A5.out).mono ?_);(case side1=>exact Kd.C_q ((Kd.R_reads' a8.out).2.2));(case side2=>exact (Kd.R_reads' a8.out).2.1);rintro e w' ⟨rfl,⟨nd,rfl⟩⟩;refine ⟨_,rfl,?_⟩))
 go_ret
 exact ⟨rE,by repeat (first|(with_reducible first|exact HB.out|apply below_alloc|apply pw_below_drewN|apply below_drew1)|exact HB.out)⟩
end Go.Proofs.Ytnkpakakgfkpbaa.P
end
section
namespace Go.Proofs.Ytnkpakakgfkpbaa.P
open Go.RowKit Go.Proofs.YtnkpakakgfkpbaaW.PrintWords Go.Proofs.YtnkpakakgfkpbaaW.PrintLast Go.Proofs.YtnkpakakgfkpbaaW.PrintMore
open Go.Sort (grow putRow Holds mapBlock onCells putCells)
theorem sortWorld_nothing {α:Type} [Inhabited α] (enc:α→Value) (w:World) (g q:Nat) (D:Array α):sortWorld enc w g 0 q D #[]=putRow enc (Go.Sort.ahead w q) g 0 D:=by
  unfold sortWorld
  exact Go.Sort.grow_empty _
theorem put_cells_len {α:Type} [Inhabited α] (enc:α→Value) (d:Array α) (cur:Array Value):(putCells enc 0 d cur).size=cur.size:=by simp [putCells]
theorem put_cells_take {α:Type} [Inhabited α] (enc:α→Value) (d:Array α) (cur:Array Value) (h:d.size≤cur.size):(putCells enc 0 d cur).toList.take d.size=d.toList.map enc:=by
  apply List.ext_getElem?
  intro j
  rw [List.getElem?_take,List.getElem?_map]
  by_cases hj:j < d.size
  · rw [if_pos hj]
    have h1:j < (putCells enc 0 d cur).size:=by rw [put_cells_len];omega
    rw [Array.getElem?_toList,Array.getElem?_toList,Array.getElem?_eq_getElem h1,Array.getElem?_eq_getElem hj]
    simp [putCells,hj]
  · rw [if_neg hj,Array.getElem?_toList,Array.getElem?_eq_none (by omega)]
    rfl
theorem sorted_heap {α:Type} [Inhabited α] (enc:α→Value) (w:World) (g m:Nat) (d:Array α) (os:Array Obj) (cur:Array Value) (e:TypeId) (fr:Nat × Nat) (hb:w.heap[g]? = some (.cells cur e fr)) :
    (sortWorld enc w g 0 m d os).heap[g]? = some (.cells (putCells enc 0 d cur) e fr)∧∀ k,k < w.heap.size→k≠g→(sortWorld enc w g 0 m d os).heap[k]? = w.heap[k]?:=by
  have hlt:g < w.heap.size:=(Array.getElem?_eq_some_iff.1 hb).1
  have hsz:((Go.Sort.ahead w m).heap.modify g (onCells (putCells enc 0 d))).size=w.heap.size:=by simp
  refine ⟨?_,fun k hk hne=>?_⟩
  · show ((Go.Sort.ahead w m).heap.modify g (onCells (putCells enc 0 d)) ++ os)[g]? = _
    rw [Array.getElem?_append_left (by rw [hsz];exact hlt),Array.getElem?_modify]
    simp [hb,onCells]
  · show ((Go.Sort.ahead w m).heap.modify g (onCells (putCells enc 0 d)) ++ os)[k]? = _
    rw [Array.getElem?_append_left (by rw [hsz];exact hk),Array.getElem?_modify]
    simp [Ne.symm hne]
theorem sorted_grown {α:Type} [Inhabited α] (enc:α→Value) (w:World) (g m:Nat) (d:Array α) (os:Array Obj) (cur:Array Value) (e:TypeId) (fr:Nat × Nat) (hb:w.heap[g]? = some (.cells cur e fr)) :
    w.grownBy (sortWorld enc w g 0 m d os) (some g) where
  os:=rfl
  tape:=rfl
  output:=rfl
  size:=by
    show w.heap.size≤((Go.Sort.ahead w m).heap.modify g (onCells (putCells enc 0 d)) ++ os).size
    simp
  block:=fun k hk hne=>(sorted_heap enc w g m d os cur e fr hb).2 k hk (fun h=>hne (by rw [h]))
theorem own_sorted {α:Type} [Inhabited α] (enc:α→Value) (w:World) (base g cap m:Nat) (e:TypeId) (d d':Array α) (os:Array Obj) (ho:w.ownsRow base e 1 (.slice (some ⟨g,0,none⟩) d.size cap) d.size (d.toList.map enc)) (hs:d'.size=d.size) :
    (sortWorld enc w g 0 m d' os).ownsRow base e 1 (.slice (some ⟨g,0,none⟩) d.size cap) d.size (d'.toList.map enc)∧w.grownBy (sortWorld enc w g 0 m d' os) (some g):=by
  obtain ⟨h1,h2⟩:=ho
  rcases h2 with ⟨h,_⟩|⟨g',cap',cur,hv,hg,hb,hn,hc,hcs,htk⟩
  · cases h
  · injection hv with hv1 hv2 hv3
    injection hv1 with hv1
    injection hv1 with hv1
    subst hv1;subst hv3
    refine ⟨⟨by simp [hs],.inr ⟨g,cap,_,rfl,hg,(sorted_heap enc w g m d' os cur e (0,0) hb).1,hn,hc,by rw [put_cells_len];exact hcs,?_⟩⟩,sorted_grown enc w g m d' os cur e (0,0) hb⟩
    rw [Nat.mul_one,← hs]
    exact put_cells_take enc d' cur (by omega)
theorem own_holds {α:Type} [Inhabited α] (enc:α→Value) (w:World) (base g cap:Nat) (e:TypeId) (d:Array α) (ho:w.ownsRow base e 1 (.slice (some ⟨g,0,none⟩) d.size cap) d.size (d.toList.map enc)):Holds enc w g 0 d:=by
  intro j hj
  obtain ⟨h1,h2⟩:=ho
  rcases h2 with ⟨h,_⟩|⟨g',cap',cur,hv,hg,hb,hn,hc,hcs,htk⟩
  · cases h
  · injection hv with hv1 hv2 hv3
    injection hv1 with hv1
    injection hv1 with hv1
    subst hv1
    have hget:cur[j]? = some (enc d[j]!):=by
      have:=congrArg (fun l=>l[j]?) htk
      simp only [Nat.mul_one,List.getElem?_take,if_pos hj,Array.getElem?_toList,List.getElem?_map,Array.getElem?_eq_getElem hj] at this
      rw [this]
      simp [getElem!_pos,hj]
    refine ⟨?_,?_⟩
    · simp [World.cell?,hb,hget]
    · simp [World.frozen?,hb]
theorem own_take {w:World} {base:Nat} {e:TypeId} {a:Option Addr} {n cap:Nat} {xs:List Value} (ho:w.ownsRow base e 1 (.slice a n cap) n xs) (m:Nat) (hm:m≤n):w.ownsRow base e 1 (.slice a m cap) m (xs.take m):=by
  obtain ⟨h1,h2⟩:=ho
  rcases h2 with ⟨h,h0⟩|⟨g',cap',cur,hv,hg,hb,hn,hc,hcs,htk⟩
  · injection h with ha hn hc
    subst ha;subst hc;subst h0
    obtain rfl:m=0:=by omega
    exact ⟨by simp,.inl ⟨rfl,rfl⟩⟩
  · injection hv with hv1 hv2 hv3
    subst hv1;subst hv3
    refine ⟨by rw [List.length_take,h1];omega,.inr ⟨g',cap,cur,rfl,hg,hb,by omega,hc,hcs,?_⟩⟩
    rw [← htk,List.take_take]
    congr 1
    omega
end Go.Proofs.Ytnkpakakgfkpbaa.P
end
section
namespace Go.Proofs.Ytnkpakakgfkpbaa.P
open Go.RowKit Go.Proofs.YtnkpakakgfkpbaaW.PrintWords Go.Proofs.YtnkpakakgfkpbaaW.PrintLast Go.Proofs.YtnkpakakgfkpbaaW.PrintMore
theorem bl_irrefl (a:List UInt8):Op.bytesLess a a=false:=by
  induction a with
  | nil=>rfl
  | cons x a ih=>simp [Op.bytesLess,ih,UInt8.lt_irrefl]
theorem bl_total (a b:List UInt8) (h:Op.bytesLess a b=false) (h':Op.bytesLess b a=false):a=b:=by
  have:=bytesLess_total a b
  rw [h,h'] at this
  simpa using this
theorem bl_trans (a b c:List UInt8) (h:Op.bytesLess a b=true) (h':Op.bytesLess b c=true):Op.bytesLess a c=true:=by
  induction a generalizing b c with
  | nil=>
    cases b with
    | nil=>simp [Op.bytesLess] at h
    | cons y b=>
      cases c with
      | nil=>simp [Op.bytesLess] at h'
      | cons z c=>rfl
  | cons x a ih=>
    cases b with
    | nil=>simp [Op.bytesLess] at h
    | cons y b=>
      cases c with
      | nil=>simp [Op.bytesLess] at h'
      | cons z c=>
        simp only [Op.bytesLess,Bool.or_eq_true,decide_eq_true_eq,Bool.and_eq_true,beq_iff_eq,UInt8.lt_iff_toNat_lt] at h h' ⊢
        rcases h with h|⟨rfl,h⟩
        · rcases h' with h' | ⟨rfl,h'⟩
          · exact .inl (by omega)
          · exact .inl h
        · rcases h' with h' | ⟨rfl,h'⟩
          · exact .inl h'
          · exact .inr ⟨rfl,ih b c h h'⟩
def cmpInt (x y:Int):Int:=if x < y then -1 else if x > y then 1 else 0
def cmpStr (a b:ByteArray):Int:=if Op.bytesLess a.toList b.toList=true then -1 else if Op.bytesLess b.toList a.toList=true then 1 else 0
def cmpVal (a b:ByteArray):Int:=if cmpInt a.size b.size=0 then cmpStr a b else cmpInt a.size b.size
def vlt (a b:ByteArray):Bool:=decide (a.size < b.size) || (decide (a.size=b.size) && Op.bytesLess a.toList b.toList)
theorem vlt_irrefl (a:ByteArray):vlt a a=false:=by simp [vlt,bl_irrefl]
theorem vlt_trans (a b c:ByteArray) (h:vlt a b=true) (h':vlt b c=true):vlt a c=true:=by
  simp only [vlt,Bool.or_eq_true,decide_eq_true_eq,Bool.and_eq_true] at *
  rcases h with h|⟨h1,h2⟩ <;> rcases h' with h' | ⟨h3,h4⟩
  · exact .inl (by omega)
  · exact .inl (by omega)
  · exact .inl (by omega)
  · exact .inr ⟨by omega,bl_trans _ _ _ h2 h4⟩
theorem ba_ext {a b:ByteArray} (h:a.toList=b.toList):a=b:=by
  rw [ByteArray.toList_eq,ByteArray.toList_eq] at h
  cases a;cases b
  congr 1
  exact Array.toList_inj.1 h
theorem vlt_total (a b:ByteArray) (h:vlt a b=false) (h':vlt b a=false):a=b:=by
  simp only [vlt,Bool.or_eq_false_iff,decide_eq_false_iff_not,Bool.and_eq_false_iff] at h h'
  have hs:a.size=b.size:=by omega
  refine ba_ext (bl_total _ _ ?_ ?_)
  · rcases h.2 with h|h
    · exact absurd hs h
    · exact h
  · rcases h'.2 with h|h
    · exact absurd hs.symm h
    · exact h
theorem vlt_ntrans (a b c:ByteArray) (h:vlt a b=false) (h':vlt b c=false):vlt a c=false:=by
  cases hac:vlt a c with
  | false=>rfl
  | true=>
    cases hba:vlt b a with
    | true=>rw [vlt_trans _ _ _ hba hac] at h';cases h'
    | false=>
      obtain rfl:=vlt_total _ _ h hba
      rw [hac] at h';cases h'
theorem cmpVal_lt (a b:ByteArray):(cmpVal a b < 0) ↔ vlt a b=true:=by
  unfold cmpVal cmpInt cmpStr vlt
  by_cases h1:(a.size:Int) < b.size
  · simp [h1];omega
  · by_cases h2:(a.size:Int) > b.size
    · simp [h1,h2];omega
    · have h3:a.size=b.size:=by omega
      simp only [h1,h2,if_false,if_true,h3,Nat.lt_irrefl,decide_false,Bool.false_or,decide_true,Bool.true_and]
      by_cases h4:Op.bytesLess a.toList b.toList=true
      · simp [h4]
      · by_cases h5:Op.bytesLess b.toList a.toList=true
        · simp [h4,h5]
        · simp [h4,h5]
theorem cmpVal_gt (a b:ByteArray):(cmpVal a b > 0) ↔ vlt b a=true:=by
  unfold cmpVal cmpInt cmpStr vlt
  by_cases h1:(a.size:Int) < b.size
  · simp [h1];omega
  · by_cases h2:(a.size:Int) > b.size
    · simp [h1,h2];omega
    · have h3:a.size=b.size:=by omega
      simp only [h1,h2,if_false,if_true,h3,Nat.lt_irrefl,decide_false,Bool.false_or,decide_true,Bool.true_and]
      by_cases h4:Op.bytesLess a.toList b.toList=true
      · have h5:Op.bytesLess b.toList a.toList=false:=by
          cases hb:Op.bytesLess b.toList a.toList with
          | false=>rfl
          | true=>have:=bl_trans _ _ _ h4 hb;rw [bl_irrefl] at this;cases this
        simp [h4,h5]
      · by_cases h5:Op.bytesLess b.toList a.toList=true
        · simp [h4,h5]
        · simp [h4,h5]
end Go.Proofs.Ytnkpakakgfkpbaa.P
end
section
namespace Go.Proofs
open Go.Shelf
def Try.lays194_ren:Go.Shelf.Ren:=⟨fun|194=>52|n=>n,fun|31=>22|9=>9|3=>3|4=>4|0=>0|n=>n,fun|n=>n⟩
theorem Try.lays194:Go.Proofs.Lays.n194 Try.prog Try.lays194_ren:={
  mixed:=by kernel_rfl
  f194:=Try.func52.trans (congrArg some (by kernel_rfl))
  t0:=Try.underlying0
  a0:=Try.isAgg0
  z0:=Try.sizeOf0
  v0:=Try.zeroValue0
  t3:=Try.underlying3
  a3:=Try.isAgg3
  z3:=Try.sizeOf3
  v3:=Try.zeroValue3
  t4:=Try.underlying4
  a4:=Try.isAgg4
  z4:=Try.sizeOf4
  v4:=Try.zeroValue4
  t9:=Try.underlying9
  a9:=Try.isAgg9
  z9:=Try.sizeOf9
  v9:=Try.zeroValue9
  t31:=Try.underlying22
  a31:=Try.isAgg22
  z31:=Try.sizeOf22
  v31:=Try.zeroValue22 }
def Try.sortStr_ren:Go.Shelf.Ren:=⟨fun|6=>51|15=>65|14=>64|28=>82|29=>83|20=>74|21=>75|22=>76|23=>77|24=>78|25=>79|26=>80|27=>81|46=>89|47=>90|48=>91|49=>92|50=>93|57=>95|n=>n,fun|22=>22|24=>9|25=>38|3=>3|39=>88|0=>0|53=>92|55=>106|4=>4|46=>109|45=>108|50=>76|5=>5|9=>9|66=>122|70=>126|76=>129|77=>59|n=>n,fun|n=>n⟩
theorem Try.sortStr:Go.Proofs.SlLaysF.n6 Try.prog Try.sortStr_ren:={
  mixed:=by kernel_rfl
  f6:=⟨Try.f51.name,by decide,Try.func51.trans (congrArg some (by kernel_rfl))⟩
  f14:=⟨Try.f64.name,by decide,Try.func64.trans (congrArg some (by kernel_rfl))⟩
  f15:=Try.func65.trans (congrArg some (by kernel_rfl))
  f20:=⟨Try.f74.name,by decide,Try.func74.trans (congrArg some (by kernel_rfl))⟩
  f21:=⟨Try.f75.name,by decide,Try.func75.trans (congrArg some (by kernel_rfl))⟩
  f22:=⟨Try.f76.name,by decide,Try.func76.trans (congrArg some (by kernel_rfl))⟩
  f23:=⟨Try.f77.name,by decide,Try.func77.trans (congrArg some (by kernel_rfl))⟩
  f24:=⟨Try.f78.name,by decide,Try.func78.trans (congrArg some (by kernel_rfl))⟩
  f25:=⟨Try.f79.name,by decide,Try.func79.trans (congrArg some (by kernel_rfl))⟩
  f26:=⟨Try.f80.name,by decide,Try.func80.trans (congrArg some (by kernel_rfl))⟩
  f27:=⟨Try.f81.name,by decide,Try.func81.trans (congrArg some (by kernel_rfl))⟩
  f28:=Try.func82.trans (congrArg some (by kernel_rfl))
  f29:=Try.func83.trans (congrArg some (by kernel_rfl))
  f46:=⟨Try.f89.name,by decide,Try.func89.trans (congrArg some (by kernel_rfl))⟩
  f47:=Try.func90.trans (congrArg some (by kernel_rfl))
  f48:=Try.func91.trans (congrArg some (by kernel_rfl))
  f49:=⟨Try.f92.name,by decide,Try.func92.trans (congrArg some (by kernel_rfl))⟩
  f50:=⟨Try.f93.name,by decide,Try.func93.trans (congrArg some (by kernel_rfl))⟩
  f57:=⟨Try.f95.name,by decide,Try.func95.trans (congrArg some (by kernel_rfl))⟩
  t0:=Try.underlying0
  a0:=Try.isAgg0
  z0:=Try.sizeOf0
  v0:=Try.zeroValue0
  t3:=Try.underlying3
  a3:=Try.isAgg3
  z3:=Try.sizeOf3
  v3:=Try.zeroValue3
  t4:=Try.underlying4
  a4:=Try.isAgg4
  z4:=Try.sizeOf4
  v4:=Try.zeroValue4
  t5:=Try.underlying5
  a5:=Try.isAgg5
  z5:=Try.sizeOf5
  v5:=Try.zeroValue5
  t9:=Try.underlying9
  a9:=Try.isAgg9
  z9:=Try.sizeOf9
  v9:=Try.zeroValue9
  t22:=Try.underlying22
  a22:=Try.isAgg22
  z22:=Try.sizeOf22
  v22:=Try.zeroValue22
  a24:=Try.isAgg9
  z24:=Try.sizeOf9
  t25:=Try.underlying38
  a25:=Try.isAgg38
  z25:=Try.sizeOf38
  v25:=Try.zeroValue38
  t39:=Try.underlying88
  a39:=Try.isAgg88
  z39:=Try.sizeOf88
  v39:=Try.zeroValue88
  t45:=Try.underlying108
  a45:=Try.isAgg108
  z45:=Try.sizeOf108
  v45:=Try.zeroValue108
  t46:=Try.underlying109
  a46:=Try.isAgg109
  z46:=Try.sizeOf109
  v46:=Try.zeroValue109
  t50:=Try.underlying76
  a50:=Try.isAgg76
  z50:=Try.sizeOf76
  v50:=Try.zeroValue76
  t53:=Try.underlying92
  a53:=Try.isAgg92
  z53:=Try.sizeOf92
  v53:=Try.zeroValue92
  t55:=Try.underlying106
  a55:=Try.isAgg106
  z55:=Try.sizeOf106
  v55:=Try.zeroValue106
  t66:=Try.underlying122
  a66:=Try.isAgg122
  z66:=Try.sizeOf122
  v66:=Try.zeroValue122
  t70:=Try.underlying126
  a70:=Try.isAgg126
  z70:=Try.sizeOf126
  v70:=Try.zeroValue126
  t76:=Try.underlying129
  a76:=Try.isAgg129
  z76:=Try.sizeOf129
  v76:=Try.zeroValue129
  t77:=Try.underlying59
  a77:=Try.isAgg59
  z77:=Try.sizeOf59
  v77:=Try.zeroValue59 }
def Try.insStr_ren:Go.Shelf.Ren:=⟨fun|22=>45|29=>59|30=>60|36=>71|17=>86|n=>n,fun|24=>22|9=>9|3=>3|4=>4|0=>0|n=>n,fun|n=>n⟩
theorem Try.insStr:Go.Proofs.Lays2.n22 Try.prog Try.insStr_ren:={
  mixed:=by kernel_rfl
  f17:=Try.func86.trans (congrArg some (by kernel_rfl))
  f22:=Try.func45.trans (congrArg some (by kernel_rfl))
  f29:=Try.func59.trans (congrArg some (by kernel_rfl))
  f30:=Try.func60.trans (congrArg some (by kernel_rfl))
  f36:=Try.func71.trans (congrArg some (by kernel_rfl))
  t0:=Try.underlying0
  a0:=Try.isAgg0
  z0:=Try.sizeOf0
  v0:=Try.zeroValue0
  t3:=Try.underlying3
  a3:=Try.isAgg3
  z3:=Try.sizeOf3
  v3:=Try.zeroValue3
  t4:=Try.underlying4
  a4:=Try.isAgg4
  z4:=Try.sizeOf4
  v4:=Try.zeroValue4
  t9:=Try.underlying9
  a9:=Try.isAgg9
  z9:=Try.sizeOf9
  v9:=Try.zeroValue9
  t24:=Try.underlying22
  a24:=Try.isAgg22
  z24:=Try.sizeOf22
  v24:=Try.zeroValue22
  i9:=by kernel_rfl }
end Go.Proofs
end
section
namespace Go.Proofs.Ytnkpakakgfkpbaa.P
open Go.RowKit Go.Proofs.YtnkpakakgfkpbaaW.PrintWords Go.Proofs.YtnkpakakgfkpbaaW.PrintLast Go.Proofs.YtnkpakakgfkpbaaW.PrintMore
open Go.Sort (grow grow_empty SWO)
theorem reads_two (W:World) (b:Nat) (x y:Int) (h0:W.cell? ⟨b,0,none⟩=some (.int .i64 x)) (h1:W.cell? ⟨b,1,none⟩=some (.int .i64 y)):Kd.C (Kd.int .i64) W (some ⟨b,0,none⟩) [x,y].length [x,y]:=by
  refine ⟨rfl,by simp,fun _=>⟨_,rfl,fun j p hj=>?_⟩⟩
  rcases j with _|_|j
  · obtain rfl:x=p:=by simpa using hj
    refine ⟨[.int .i64 x],rfl,rfl,fun i u hu=>?_⟩
    rcases i with _|i
    · obtain rfl:Value.int .i64 x=u:=by simpa using hu
      simpa [add_plain,Kd.int,Kd.scalar] using h0
    · simp at hu
  · obtain rfl:y=p:=by simpa using hj
    refine ⟨[.int .i64 y],rfl,rfl,fun i u hu=>?_⟩
    rcases i with _|i
    · obtain rfl:Value.int .i64 y=u:=by simpa using hu
      simpa [add_plain,Kd.int,Kd.scalar] using h1
    · simp at hu
  · simp at hj
theorem cell_at_new (W:World) (cs:Array Value) (t:TypeId) (j:Nat) (v:Value) (hv:cs[j]? = some v):(W.alloc (.cells cs t)).cell? ⟨W.heap.size,j,none⟩=some v:=by
  rw [World.cell?_alloc_at cs t W.heap.size j rfl];exact hv
theorem alloc_drewN (W:World) (o:Obj) (n:Nat):(W.alloc o).drewN n=(W.drewN n).alloc o:=rfl
set_option maxHeartbeats 4000000 in
theorem nomination_Compare.lays (k:Nat) (a0 a1:ByteArray) (r:Int) (w:World) (h:nomination_Compare.f k a0 a1=some r) :
    Calls Try.prog 9 #[.string a0,.string a1] w fun e w'=>e = .returned (.int .i64 r)∧∃ q os,w'=grow (w.drewN q) os:=by
  unfold nomination_Compare.f at h
  replace h:=Option.bind_eq_some_iff.mp h
  obtain ⟨t1,A1,h⟩:=h
  replace h:=Option.bind_eq_some_iff.mp h
  obtain ⟨t2,A2,h⟩:=h
  replace h:=Option.bind_eq_some_iff.mp h
  obtain ⟨t3,A3,h⟩:=h
  obtain rfl:=Option.some.inj h
  have B1:=Aside0.mk A1
  have B2:=Aside0.mk A2
  have B3:=Aside0.mk A3
  clear h A1 A2 A3
  go_enter Try.func9,Try.ntmps9
  go_wp2_with (first
    | (go_at_call 15;(with_reducible refine (cmp_Compare_int.calls _ _ t1 _ B1.out).mono ?_);rintro e w' ⟨rfl,⟨n1,rfl⟩⟩)
    | (go_at_call 16;(with_reducible refine (cmp_Compare_string.calls _ _ t2 _ B2.out).mono ?_);rintro e w' ⟨rfl,⟨n2,rfl⟩⟩)
    | (go_at_call 14;refine (cmp_Or_int.calls k _ 2 [t1,t2] t3 _ (reads_two _ _ _ _ ?q1 ?q2) (Nat.le_refl 2) B3.out).mono ?_;(case q1=>exact cell_at_new _ #[.int .i64 t1,.int .i64 t2] 3 0 _ rfl);(case q2=>exact cell_at_new _ #[.int .i64 t1,.int .i64 t2] 3 1 _ rfl);rintro e w' ⟨rfl,⟨n3,rfl⟩⟩))
  go_ret
  refine ⟨rfl,n1 + n2 + n3,#[.cells #[.int .i64 t1,.int .i64 t2] 3 (0,0)],?_⟩
  rw [alloc_drewN,World.drewN_drewN]
  rfl
theorem nomination_Compare.ev (a b:ByteArray):nomination_Compare.f 3 a b=some (cmpVal a b):=by
  have h1:cmp_Compare_int.f (a.size:Int) (b.size:Int)=some (cmpInt a.size b.size):=by
    simp only [cmp_Compare_int.f,cmp_isNaN_int.f,cmpInt]
    simp
    split
    · rfl
    · split <;> rfl
  have h2:cmp_Compare_string.f a b=some (cmpStr a b):=by
    simp only [cmp_Compare_string.f,cmp_isNaN_string.f,cmpStr]
    simp
    split
    · rfl
    · split <;> rfl
  unfold nomination_Compare.f
  rw [h1,h2]
  simp only [Option.bind_some,cmp_Or_int.f,cmp_Or_int.l0,List.length_cons,List.length_nil,rd]
  by_cases h:cmpInt a.size b.size=0
  · simp [h,cmpVal,wrap64]
    by_cases h':cmpStr a b=0
    · simp [h']
    · simp [h']
  · simp [h,cmpVal]
def valLe (a b:ByteArray):Bool:=!(vlt b a)
theorem valLe_of:(fun x y:ByteArray=>!(ltOf cmpVal) y x)=valLe:=by
  funext x y
  unfold valLe ltOf
  congr 1
  rw [Bool.eq_iff_iff,decide_eq_true_iff]
  exact cmpVal_lt y x
theorem swo_val:SWO (ltOf cmpVal) where
  irrefl x:=by
    have:=vlt_irrefl x
    unfold ltOf
    rw [decide_eq_false_iff_not,cmpVal_lt,this];simp
  trans x y z h1 h2:=by
    unfold ltOf at *
    rw [decide_eq_true_iff,cmpVal_lt] at *
    exact vlt_trans _ _ _ h1 h2
  ntrans x y z h1 h2:=by
    unfold ltOf at *
    rw [decide_eq_false_iff_not,cmpVal_lt,Bool.not_eq_true] at *
    exact vlt_ntrans _ _ _ h1 h2
def insV (x:ByteArray):List ByteArray→List ByteArray
  | []=>[x]
  | y :: ys=>if valLe x y then x :: y :: ys else y :: insV x ys
def isortV:List ByteArray→List ByteArray
  | []=>[]
  | x :: xs=>insV x (isortV xs)
theorem valLe_trans (a b c:ByteArray) (h1:valLe a b=true) (h2:valLe b c=true):valLe a c=true:=by
  unfold valLe at *
  simp only [Bool.not_eq_true'] at *
  exact vlt_ntrans _ _ _ h2 h1
theorem valLe_total (a b:ByteArray):(valLe a b || valLe b a)=true:=by
  unfold valLe
  cases h:vlt b a
  · simp
  · cases h':vlt a b
    · simp
    · have:=vlt_trans _ _ _ h h'
      rw [vlt_irrefl] at this;simp at this
theorem insV_mid (a:ByteArray) (l1 l2:List ByteArray) (h1:∀ b ∈ l1,(!valLe a b)=true) (h2:∀ b ∈ l2,valLe a b=true):insV a (l1 ++ l2)=l1 ++ a :: l2:=by
  induction l1 with
  | nil=>cases l2 with
    | nil=>rfl
    | cons y ys=>simp [insV,h2 y (by simp)]
  | cons x xs ih=>
    have hx:=h1 x (by simp)
    simp only [Bool.not_eq_true'] at hx
    simp [insV,hx,ih (fun b hb=>h1 b (by simp [hb]))]
theorem isortV_eq (l:List ByteArray):isortV l=l.mergeSort valLe:=by
  induction l with
  | nil=>simp [isortV]
  | cons a l ih=>
    obtain ⟨l1,l2,e1,e2,h⟩:=List.mergeSort_cons valLe_trans valLe_total a l
    have hp:=List.pairwise_mergeSort valLe_trans valLe_total (a :: l)
    rw [e1] at hp
    rw [isortV,ih,e1,e2]
    exact insV_mid a l1 l2 h (fun b hb=>(List.pairwise_cons.1 (List.pairwise_append.1 hp).2.1).1 b hb)
def sSF.f (l0:List ByteArray):Option (List ByteArray):=if l0.length < 4611686018427387904 then some (isortV l0) else none
theorem sSF.calls (P0_:Nat→Prop) (u9000_:Value) (l0:List ByteArray) (r:List ByteArray) (w0 w:World) (hB:Below w0.heap.size w0 w)
    (ho0:Kd.R Kd.string 9 w w0.heap.size P0_ u9000_ l0) (h:sSF.f l0=some r) :
    Calls Try.prog 51 #[u9000_,.func (.func 9) #[] #[]] w fun e w'=>e = .returned (.tuple #[])∧Kd.R Kd.string 9 w' w0.heap.size (fun k_=>(P0_ k_∨w.heap.size≤k_)) u9000_ r∧Below w0.heap.size w0 w'∧Kept w w' (fun k_=>P0_ k_):=by
  unfold sSF.f at h
  split at h
  · rename_i hlt
    obtain rfl:=Option.some.inj h
    rw [isortV_eq]
    have hown:=Kd.own_of_R ho0
    have hokg:=ho0.1
    have eg:∀ args w,(callFunc 9 args).run Try.prog w = .ok (.enter 9 args) w:=enters_of Try.func9 (by kernel_rfl) rfl
    rcases hown.2 with ⟨rfl,h0⟩|⟨g,cap,cur,rfl,hg,hb,hn,hc,hcs,htk⟩
    · obtain rfl:l0 = []:=List.eq_nil_of_length_eq_zero h0
      refine (AnyF.slices_SortFunc_none { Try.sortStr with } none 0 (.func (.func 9) #[] #[]) w).mono ?_
      rintro e w' ⟨rfl,rfl⟩
      exact ⟨rfl,Kd.R_mono (by simpa using ho0) (fun k hk=>.inl hk),hB,Kept.refl _ _⟩
    · have ho1:w.ownsRow w0.heap.size 9 1 (.slice (some ⟨g,0,none⟩) l0.toArray.size cap) l0.toArray.size (l0.toArray.toList.map Value.string):=hown
      have hglt:g < w.heap.size:=(Array.getElem?_eq_some_iff.1 hb).1
      have hcl:=Any.slices_SortFunc_total Try.sortStr Value.string (fun _=>rfl) cmpVal swo_val 9 #[] g 0 cap l0.toArray w eg
        (fun m os dk _ x y=>nomination_Compare.lays 3 x y _ _ (nomination_Compare.ev x y)) (own_holds Value.string w w0.heap.size g cap _ _ ho1) hglt (by simpa using hlt)
        (fun x y h1 h2=>by
          unfold ltOf at h1 h2
          rw [decide_eq_false_iff_not,cmpVal_lt,Bool.not_eq_true] at h1 h2
          exact vlt_total _ _ h1 h2)
      refine hcl.mono ?_
      rintro e w' ⟨rfl,n,os,rfl⟩
      rw [valLe_of]
      obtain ⟨ho2,hgr⟩:=own_sorted Value.string w w0.heap.size g cap n _ _ (l0.toArray.toList.mergeSort valLe).toArray os ho1 (by simp)
      refine ⟨rfl,?_,pw_below_grown hB _ hB.size hgr (fun k hk=>by injection hk with hk;omega),⟨hgr.size,fun i hi hne=>hgr.block i hi (fun he=>hne (by injection he with he;rw [he];exact hokg g rfl))⟩⟩
      refine Kd.R_of_own (h1:=fun _=>rfl) (enc:=Value.string) (ok:=fun k_=>(P0_ k_∨w.heap.size≤k_)) ?_ (fun k hk=>.inl (hokg k hk))
      simpa [encs] using ho2
  · cases h
end Go.Proofs.Ytnkpakakgfkpbaa.P
end
section
namespace Go.Proofs.Ytnkpakakgfkpbaa.P
open Go.RowKit Go.Proofs.YtnkpakakgfkpbaaW.PrintWords Go.Proofs.YtnkpakakgfkpbaaW.PrintLast Go.Proofs.YtnkpakakgfkpbaaW.PrintMore
attribute [local go_sem] max2_int max_two binOp_string_gtr_pp
def nomination_value.f (a0:ByteArray):Option (Bool):=if (a0.size:Int)≥1 then (some (decide ((a0.size:Int)≤200))) else (some false)
set_option maxHeartbeats 8000000 in
set_option maxRecDepth 100000 in
theorem nomination_value.calls (a0:ByteArray) (r:Bool) (w:World) (h:nomination_value.f a0=some r) :
  Calls Try.prog 8 #[.string a0] w fun e w'=>e = .returned (.bool r)∧Drawn0 w w':=by
 have H:(if (a0.size:Int)≥1 then (some (decide ((a0.size:Int)≤200))) else (some false))=some r:=h
 clear h
 by_cases c2:(a0.size:Int)≥1
 ·rw [if_pos c2] at H
  have a1:decide (1≤(a0.size:Int))=true:=decide_eq_true c2
  have a2:decide (1≤a0.size)=true:=decide_eq_true (by omega)
  clear c2
  obtain rfl:=Option.some.inj H
  go_enter Try.func8,Try.ntmps8
  go_wp2
  go_ret
  exact ⟨by first|rfl|(simp;done)|(simp [*];done),by repeat (first|exact Drawn0.refl _|apply Drawn0.step)⟩
 ·rw [if_neg c2] at H
  have a1:decide (1≤(a0.size:Int))=false:=decide_eq_false c2
  have a2:decide (1≤a0.size)=false:=decide_eq_false (by omega)
  clear c2
  obtain rfl:=Option.some.inj H
  go_enter Try.func8,Try.ntmps8
  go_wp2
  go_ret
  exact ⟨by first|rfl|(simp;done)|(simp [*];done),by repeat (first|exact Drawn0.refl _|apply Drawn0.step)⟩
def nomination_Composite.l0:Nat→ByteArray→List ByteArray→Int→Int→Option (ByteArray × Bool)
 | 0,_,_,_,_=>none
 | k + 1,x4,x7,x8,x9=>if x9 < x8 then (if 0≤x9 then (if x9 < (x7.length:Int) then ((nomination_value.f (rdOf ByteArray.empty x7 x9)).bind fun a9=>(if a9=true then ((nomination_Compare.f k (rdOf ByteArray.empty x7 x9) x4).bind fun a6=>(if a6 > 0 then (nomination_Composite.l0 k (rdOf ByteArray.empty x7 x9) x7 x8 (wrap64 (x9 + 1))) else (nomination_Composite.l0 k x4 x7 x8 (wrap64 (x9 + 1))))) else (nomination_Composite.l0 k x4 x7 x8 (wrap64 (x9 + 1))))) else (none)) else (none)) else (some (x4,(x4.toList != ([]:List UInt8))))
def nomination_Composite.f (k:Nat) (l0:List ByteArray):Option (ByteArray × Bool):=nomination_Composite.l0 k (⟨#[]⟩:ByteArray) l0 (l0.length:Int) 0
theorem nomination_Composite.mono_l:∀ k,(∀ y0 y1 y2 y3,LeO (nomination_Composite.l0 k y0 y1 y2 y3) (nomination_Composite.l0 (k + 1) y0 y1 y2 y3))
 | 0=>fun _ _ _ _ r h=>by simp [nomination_Composite.l0] at h
 | k + 1=>by
  have b0:=nomination_Composite.mono_l k
  ·intro y0 y1 y2 y3
   unfold nomination_Composite.l0
   repeat' first
   | (with_reducible exact b0 _ _ _ _)
   | (with_reducible apply nomination_Compare.mono)
   | (with_reducible exact LeO.refl _)
   | (with_reducible exact LeO.none _)
   | (with_reducible refine LeO.ite ?_ ?_)
   | (with_reducible refine LeO.bind ?_ (fun _=>?_))
theorem nomination_Composite.mono:∀ a0 k,LeO (nomination_Composite.f k a0) (nomination_Composite.f (k + 1) a0):=by
 intro a0 k
 have b0:=nomination_Composite.mono_l k
 unfold nomination_Composite.f
 repeat' first
   | (with_reducible exact b0 _ _ _ _)
   | (with_reducible apply nomination_Compare.mono)
   | (with_reducible exact LeO.refl _)
   | (with_reducible exact LeO.none _)
   | (with_reducible refine LeO.ite ?_ ?_)
   | (with_reducible refine LeO.bind ?_ (fun _=>?_))
set_option maxHeartbeats 8000000 in
set_option maxRecDepth 100000 in
theorem nomination_Composite.calls (k:Nat) (A0:Option Addr) (c0:Nat) (l0:List ByteArray) (r1:ByteArray) (r2:Bool) (w:World) (b2:Kd.C Kd.string w A0 l0.length l0) (b3:l0.length≤c0) (h:nomination_Composite.f k l0=some (r1,r2)) :
  Calls Try.prog 5 #[.slice A0 l0.length c0] w fun e w'=>e = .returned (.tuple #[.string r1,.bool r2])∧Below w.heap.size w w':=by
 have b1:=Aside0.mk b2
 have b9:=Aside0.mk b3
 clear b2 b3
 have HB:=Aside0.mk (Below.refl w.heap.size w)
 have H:(nomination_Composite.l0 k (⟨#[]⟩:ByteArray) l0 (l0.length:Int) 0)=some (r1,r2):=h
 clear h
 have H':=Aside0.mk H
 clear H
 go_enter Try.func5,Try.ntmps5
 go_wp2
 go_loopg [4,9] k (fun kq v4 v9 w'=>∃ (a2:ByteArray) (a1:Int),v4 = .string a2∧v9 = .int .i64 a1∧Aside0 (nomination_Composite.l0 kq a2 l0 (l0.length:Int) a1=some (r1,r2))∧Aside0 (kq≤k)∧Aside0 (Below w.heap.size w w'))
 case atStart=>exact ⟨((⟨#[]⟩:ByteArray)),(0),tz3,tz3,H',⟨Nat.le_refl _⟩,⟨by repeat (first|(with_reducible first|exact HB.out|apply below_alloc|apply pw_below_drewN|apply below_drew1)|exact HB.out)⟩⟩
 case round=>
  clear H'
  try clear HB
  obtain ⟨a2,a1,rfl,rfl,HA,a7,HB⟩:=hrel
  cases gk with
  | zero=>exact absurd HA.out (by simp [nomination_Composite.l0])
  | succ k1=>
   have H:=HA.out
   clear HA
   simp only [nomination_Composite.l0] at H
   by_cases c2:a1 < (l0.length:Int)
   ·rw [if_pos c2] at H
    have b7:decide (a1 < (l0.length:Int))=true:=decide_eq_true c2
    clear c2
    by_cases c3:0≤a1
    ·rw [if_pos c3] at H
     have c1:decide (0≤a1)=true:=decide_eq_true c3
     clear c3
     by_cases c4:a1 < (l0.length:Int)
     ·rw [if_pos c4] at H
      have d0:decide (a1 < (l0.length:Int))=true:=decide_eq_true c4
      clear c4
      replace H:=Option.bind_eq_some_iff.mp H
      obtain ⟨a9,b4,H⟩:=H
      replace H:(if a9=true then ((nomination_Compare.f k1 (rdOf ByteArray.empty l0 a1) a2).bind fun a6=>(if a6 > 0 then (nomination_Composite.l0 k1 (rdOf ByteArray.empty l0 a1) l0 (l0.length:Int) (wrap64 (a1 + 1))) else (nomination_Composite.l0 k1 a2 l0 (l0.length:Int) (wrap64 (a1 + 1))))) else (nomination_Composite.l0 k1 a2 l0 (l0.length:Int) (wrap64 (a1 + 1))))=some (r1,r2):=H
      have A5:=Aside0.mk b4
      clear b4
      by_cases c6:a9=true
      ·subst c6
       rw [if_pos rfl] at H
       replace H:=Option.bind_eq_some_iff.mp H
       obtain ⟨a6,b5,H⟩:=H
       replace H:(if a6 > 0 then (nomination_Composite.l0 k1 (rdOf ByteArray.empty l0 a1) l0 (l0.length:Int) (wrap64 (a1 + 1))) else (nomination_Composite.l0 k1 a2 l0 (l0.length:Int) (wrap64 (a1 + 1))))=some (r1,r2):=H
       have A7:=Aside0.mk b5
       clear b5
       by_cases c8:a6 > 0
       ·rw [if_pos c8] at H
        have b8:decide (0 < a6)=true:=decide_eq_true c8
        clear c8
        have H':=Aside0.mk H
        clear H
        have a3:0≤(a1:Int):=of_decide_eq_true tz2
        have a4:a1 < (l0.length:Int):=of_decide_eq_true tz2
        obtain ⟨b6,a8,a5⟩:=Kd.at_string b1.out a1 a3 a4
        cases a8
        replace a5:=(HB.out.cell (World.block_lt_of_cell? w _ a5)).trans a5
        replace a3:=eq_true a3
        replace a4:=eq_true a4
        go_wp2_with (first|((with_reducible refine gate_callee (f:=8) rfl ?_);refine goesL_ (some 14) rfl rfl Try.func8 (by kernel_rfl) rfl #[.string (rdOf ByteArray.empty l0 a1)] rfl tz0 ?_;(with_reducible refine (nomination_value.calls (rdOf ByteArray.empty l0 a1) true _ A5.out).mono ?_);rintro e w' ⟨rfl,⟨nd,rfl⟩⟩;refine ⟨_,rfl,?_⟩)|(go_at_call 9;(with_reducible refine (nomination_Compare.calls k1 (rdOf ByteArray.empty l0 a1) a2 a6 _ A7.out).mono ?_);rintro e w9 ⟨rfl,hb⟩;refine ap1 (below_step (belowP HB) hb) ?_;clear HB;intro HB))
        go_roundg k1
        case measure=>have:=a7.out;omega
        case rel=>exact ⟨(rdOf ByteArray.empty l0 a1),(wrap64 (a1 + 1)),tz3,tz3,H',⟨by have:=a7.out;omega⟩,⟨by repeat (first|(with_reducible first|exact HB.out|apply below_alloc|apply pw_below_drewN|apply below_drew1)|exact HB.out)⟩⟩
       ·rw [if_neg c8] at H
        have b8:decide (0 < a6)=false:=decide_eq_false c8
        clear c8
        have H':=Aside0.mk H
        clear H
        have a3:0≤(a1:Int):=of_decide_eq_true tz2
        have a4:a1 < (l0.length:Int):=of_decide_eq_true tz2
        obtain ⟨b6,a8,a5⟩:=Kd.at_string b1.out a1 a3 a4
        cases a8
        replace a5:=(HB.out.cell (World.block_lt_of_cell? w _ a5)).trans a5
        replace a3:=eq_true a3
        replace a4:=eq_true a4
        go_wp2_with (first|((with_reducible refine gate_callee (f:=8) rfl ?_);refine goesL_ (some 14) rfl rfl Try.func8 (by kernel_rfl) rfl #[.string (rdOf ByteArray.empty l0 a1)] rfl tz0 ?_;(with_reducible refine (nomination_value.calls (rdOf ByteArray.empty l0 a1) true _ A5.out).mono ?_);rintro e w' ⟨rfl,⟨nd,rfl⟩⟩;refine ⟨_,rfl,?_⟩)|(go_at_call 9;(with_reducible refine (nomination_Compare.calls k1 (rdOf ByteArray.empty l0 a1) a2 a6 _ A7.out).mono ?_);rintro e d1 ⟨rfl,hb⟩;refine ap1 (below_step (belowP HB) hb) ?_;clear HB;intro HB))
        go_roundg k1
        case measure=>have:=a7.out;omega
        case rel=>exact ⟨(a2),(wrap64 (a1 + 1)),tz3,tz3,H',⟨by have:=a7.out;omega⟩,⟨by repeat (first|(with_reducible first|exact HB.out|apply below_alloc|apply pw_below_drewN|apply below_drew1)|exact HB.out)⟩⟩
      ·replace c6:=Bool.eq_false_iff.mpr c6
       subst c6
       rw [if_neg (show ¬ (false=true) by decide)] at H
       have H':=Aside0.mk H
       clear H
       have a3:0≤(a1:Int):=of_decide_eq_true tz2
       have a4:a1 < (l0.length:Int):=of_decide_eq_true tz2
       obtain ⟨b6,a8,a5⟩:=Kd.at_string b1.out a1 a3 a4
       cases a8
       replace a5:=(HB.out.cell (World.block_lt_of_cell? w _ a5)).trans a5
       replace a3:=eq_true a3
       replace a4:=eq_true a4
       go_wp2_with (first|((with_reducible refine gate_callee (f:=8) rfl ?_);refine goesL_ (some 14) rfl rfl Try.func8 (by kernel_rfl) rfl #[.string (rdOf ByteArray.empty l0 a1)] rfl tz0 ?_;(with_reducible refine (nomination_value.calls (rdOf ByteArray.empty l0 a1) false _ A5.out).mono ?_);rintro e w' ⟨rfl,⟨nd,rfl⟩⟩;refine ⟨_,rfl,?_⟩))
       go_roundg k1
       case measure=>have:=a7.out;omega
       case rel=>exact ⟨(a2),(wrap64 (a1 + 1)),tz3,tz3,H',⟨by have:=a7.out;omega⟩,⟨by repeat (first|(with_reducible first|exact HB.out|apply below_alloc|apply pw_below_drewN|apply below_drew1)|exact HB.out)⟩⟩
     ·rw [if_neg c4] at H
      exact absurd H (by simp)
    ·rw [if_neg c3] at H
     exact absurd H (by simp)
   ·rw [if_neg c2] at H
    have b7:decide (a1 < (l0.length:Int))=false:=decide_eq_false c2
    clear c2
    simp only [Option.some.injEq,Prod.mk.injEq] at H
    obtain ⟨rfl,rfl⟩:=H
    go_wp2
    go_ret2
    exact ⟨rE,by repeat (first|(with_reducible first|exact HB.out|apply below_alloc|apply pw_below_drewN|apply below_drew1)|exact HB.out)⟩
mutual
def trustquorumlaw22_kept.l0:Nat→List ByteArray→List ByteArray→Int→Int→Option (Bool)
 | 0,_,_,_,_=>none
 | k + 1,x1,a3,a6,a2=>if a2 < a6 then (if 0≤a2 then (if a2 < (a3.length:Int) then (trustquorumlaw22_kept.l1 k x1 (rdOf ByteArray.empty a3 a2) false a3 a6 a2 x1 (x1.length:Int) 0) else (none)) else (none)) else (some true)
def trustquorumlaw22_kept.l1:Nat→List ByteArray→ByteArray→Bool→List ByteArray→Int→Int→List ByteArray→Int→Int→Option (Bool)
 | 0,_,_,_,_,_,_,_,_,_=>none
 | k + 1,x1,x6,x7,a3,a6,a2,b1,b4,a7=>if a7 < b4 then (if 0≤a7 then (if a7 < (b1.length:Int) then (if x7=true then (trustquorumlaw22_kept.l1 k x1 x6 true a3 a6 a2 b1 b4 (wrap64 (a7 + 1))) else (trustquorumlaw22_kept.l1 k x1 x6 (x6.toList == (rdOf ByteArray.empty b1 a7).toList) a3 a6 a2 b1 b4 (wrap64 (a7 + 1)))) else (none)) else (none)) else (if x7=true then (trustquorumlaw22_kept.l0 k x1 a3 a6 (wrap64 (a2 + 1))) else (some false))
end
def trustquorumlaw22_kept.f (k:Nat) (l0:List ByteArray) (l1:List ByteArray):Option (Bool):=trustquorumlaw22_kept.l0 k l1 l0 (l0.length:Int) 0
set_option maxHeartbeats 8000000 in
set_option maxRecDepth 100000 in
theorem trustquorumlaw22_kept.calls (k:Nat) (A0:Option Addr) (c0:Nat) (l0:List ByteArray) (A1:Option Addr) (c1:Nat) (l1:List ByteArray) (r:Bool) (w:World) (b6:Kd.C Kd.string w A0 l0.length l0) (b7:l0.length≤c0) (b8:Kd.C Kd.string w A1 l1.length l1) (b9:l1.length≤c1) (h:trustquorumlaw22_kept.f k l0 l1=some r) :
  Calls Try.prog 6 #[.slice A0 l0.length c0,.slice A1 l1.length c1] w fun e w'=>e = .returned (.bool r)∧Drawn0 w w':=by
 have d2:=Aside0.mk b6
 have e2:=Aside0.mk b7
 clear b6 b7
 have d0:=Aside0.mk b8
 have e3:=Aside0.mk b9
 clear b8 b9
 have H:(trustquorumlaw22_kept.l0 k l1 l0 (l0.length:Int) 0)=some r:=h
 clear h
 have H':=Aside0.mk H
 clear H
 go_enter Try.func6,Try.ntmps6
 go_wp2
 go_loopg [12] k (fun kq d3 w'=>∃ (a1:Int),d3 = .int .i64 a1∧Aside0 (trustquorumlaw22_kept.l0 kq l1 l0 (l0.length:Int) a1=some r)∧Aside0 (kq≤k)∧Drawn0 w w')
 case atStart=>exact ⟨(0),tz3,H',⟨Nat.le_refl _⟩,by repeat (first|exact Drawn0.refl _|apply Drawn0.step)⟩
 case round=>
  clear H'
  try clear c1
  obtain ⟨a1,rfl,HA,a8,⟨m1,rfl⟩⟩:=hrel
  cases gk with
  | zero=>exact absurd HA.out (by simp [trustquorumlaw22_kept.l0])
  | succ k1=>
   have H:=HA.out
   clear HA
   simp only [trustquorumlaw22_kept.l0] at H
   by_cases c3:a1 < (l0.length:Int)
   ·rw [if_pos c3] at H
    have d1:decide (a1 < (l0.length:Int))=true:=decide_eq_true c3
    clear c3
    by_cases c4:0≤a1
    ·rw [if_pos c4] at H
     have d4:decide (0≤a1)=true:=decide_eq_true c4
     clear c4
     by_cases c5:a1 < (l0.length:Int)
     ·rw [if_pos c5] at H
      have d5:decide (a1 < (l0.length:Int))=true:=decide_eq_true c5
      clear c5
      have H':=Aside0.mk H
      clear H
      have b2:0≤(a1:Int):=of_decide_eq_true tz2
      have b3:a1 < (l0.length:Int):=of_decide_eq_true tz2
      obtain ⟨e4,d6,d7⟩:=Kd.at_string d2.out a1 b2 b3
      cases d6
      replace b2:=eq_true b2
      replace b3:=eq_true b3
      go_wp2
      go_loopg [7,18] k1 (fun kq v7 d8 w'=>∃ (b0:Bool) (a0:Int),v7 = .bool b0∧d8 = .int .i64 a0∧Aside0 (trustquorumlaw22_kept.l1 kq l1 (rdOf ByteArray.empty l0 a1) b0 l0 (l0.length:Int) a1 l1 (l1.length:Int) a0=some r)∧Aside0 (kq≤k1)∧Drawn0 w w')
      case atStart=>exact ⟨(false),(0),tz3,tz3,H',⟨Nat.le_refl _⟩,by repeat (first|exact Drawn0.refl _|apply Drawn0.step)⟩
      case round=>
       clear H'
       try clear c1
       try clear c3
       try clear d1
       try clear c4
       try clear d4
       try clear c5
       try clear d5
       try clear d7
       try clear b2
       try clear b3
       obtain ⟨b0,a0,rfl,rfl,HA,a9,⟨m2,rfl⟩⟩:=hrel
       cases gk with
       | zero=>exact absurd HA.out (by simp [trustquorumlaw22_kept.l1])
       | succ k2=>
        have H:=HA.out
        clear HA
        simp only [trustquorumlaw22_kept.l1] at H
        by_cases c6:a0 < (l1.length:Int)
        ·rw [if_pos c6] at H
         have d9:decide (a0 < (l1.length:Int))=true:=decide_eq_true c6
         clear c6
         by_cases c7:0≤a0
         ·rw [if_pos c7] at H
          have e5:decide (0≤a0)=true:=decide_eq_true c7
          clear c7
          by_cases c8:a0 < (l1.length:Int)
          ·rw [if_pos c8] at H
           have e6:decide (a0 < (l1.length:Int))=true:=decide_eq_true c8
           clear c8
           by_cases c9:b0=true
           ·subst c9
            rw [if_pos rfl] at H
            have H':=Aside0.mk H
            clear H
            have a4:0≤(a0:Int):=of_decide_eq_true tz2
            have a5:a0 < (l1.length:Int):=of_decide_eq_true tz2
            obtain ⟨e0,b5,e1⟩:=Kd.at_string d0.out a0 a4 a5
            cases b5
            replace a4:=eq_true a4
            replace a5:=eq_true a5
            go_wp2
            go_roundg k2
            case measure=>have:=a8.out;have:=a9.out;omega
            case rel=>exact ⟨(true),(wrap64 (a0 + 1)),tz3,tz3,H',⟨by have:=a8.out;have:=a9.out;omega⟩,by repeat (first|exact Drawn0.refl _|apply Drawn0.step)⟩
           ·replace c9:=Bool.eq_false_iff.mpr c9
            subst c9
            rw [if_neg (show ¬ (false=true) by decide)] at H
            have H':=Aside0.mk H
            clear H
            have a4:0≤(a0:Int):=of_decide_eq_true tz2
            have a5:a0 < (l1.length:Int):=of_decide_eq_true tz2
            obtain ⟨e0,b5,e1⟩:=Kd.at_string d0.out a0 a4 a5
            cases b5
            replace a4:=eq_true a4
            replace a5:=eq_true a5
            go_wp2
            go_roundg k2
            case measure=>have:=a8.out;have:=a9.out;omega
            case rel=>exact ⟨(((rdOf ByteArray.empty l0 a1).toList == (rdOf ByteArray.empty l1 a0).toList)),(wrap64 (a0 + 1)),tz3,tz3,H',⟨by have:=a8.out;have:=a9.out;omega⟩,by repeat (first|exact Drawn0.refl _|apply Drawn0.step)⟩
          ·rw [if_neg c8] at H
           exact absurd H (by simp)
         ·rw [if_neg c7] at H
          exact absurd H (by simp)
        ·rw [if_neg c6] at H
         have d9:decide (a0 < (l1.length:Int))=false:=decide_eq_false c6
         clear c6
         by_cases c10:b0=true
         ·subst c10
          rw [if_pos rfl] at H
          have H':=Aside0.mk H
          clear H
          go_wp2
          go_roundg k2
          case measure=>have:=a8.out;have:=a9.out;omega
          case rel=>exact ⟨(wrap64 (a1 + 1)),tz3,H',⟨by have:=a8.out;have:=a9.out;omega⟩,by repeat (first|exact Drawn0.refl _|apply Drawn0.step)⟩
         ·replace c10:=Bool.eq_false_iff.mpr c10
          subst c10
          rw [if_neg (show ¬ (false=true) by decide)] at H
          obtain rfl:=Option.some.inj H
          go_wp2
          go_ret
          exact ⟨by first|rfl|(simp;done)|(simp [*];done),by repeat (first|exact Drawn0.refl _|apply Drawn0.step)⟩
     ·rw [if_neg c5] at H
      exact absurd H (by simp)
    ·rw [if_neg c4] at H
     exact absurd H (by simp)
   ·rw [if_neg c3] at H
    have d1:decide (a1 < (l0.length:Int))=false:=decide_eq_false c3
    clear c3
    obtain rfl:=Option.some.inj H
    go_wp2
    go_ret
    exact ⟨by first|rfl|(simp;done)|(simp [*];done),by repeat (first|exact Drawn0.refl _|apply Drawn0.step)⟩
end Go.Proofs.Ytnkpakakgfkpbaa.P
end
section
namespace Go.Proofs.Ytnkpakakgfkpbaa.P
open Go.RowKit Go.Proofs.YtnkpakakgfkpbaaW.PrintWords Go.Proofs.YtnkpakakgfkpbaaW.PrintLast Go.Proofs.YtnkpakakgfkpbaaW.PrintMore
theorem rounds_up {α:Type} {f:Nat→Option α} (hm:∀ k,LeO (f k) (f (k + 1))) {k0:Nat} {r:α} (h:f k0=some r):∀ k,k0≤k→f k=some r:=by
  intro k hk
  induction k with
  | zero=>
    have e:k0=0:=by omega
    rw [e] at h
    exact h
  | succ n ih=>
    rcases Nat.lt_or_ge n k0 with h1|h1
    · obtain rfl:k0=n + 1:=by omega
      exact h
    · exact hm n _ (ih h1)
theorem compare_ev (a b:ByteArray) (k:Nat) (hk:3≤k):nomination_Compare.f k a b=some (cmpVal a b):=rounds_up (f:=fun k=>nomination_Compare.f k a b) (fun k=>nomination_Compare.mono _ _ _) (nomination_Compare.ev a b) k hk
def isVal (x:ByteArray):Bool:=decide (1≤x.size) && decide (x.size≤200)
theorem value_ev (x:ByteArray):nomination_value.f x=some (isVal x):=by
  unfold nomination_value.f isVal
  by_cases h:(x.size:Int)≥1
  · have h':1≤x.size:=by omega
    simp [h,h']
    omega
  · have h' : ¬ 1≤x.size:=by omega
    simp [h,h']
def vmax (a b:ByteArray):ByteArray:=if vlt a b=true then b else a
def vnil:ByteArray:=⟨#[]⟩
def comp (l:List ByteArray):ByteArray:=(l.filter isVal).foldl vmax vnil
theorem wrap_succ (i n:Nat) (h:i < n) (hn:n < 4611686018427387904):wrap64 ((i:Int) + 1)=((i + 1:Nat):Int):=by unfold wrap64;omega
theorem composite_loop (l:List ByteArray) (hl:l.length < 4611686018427387904) (d:Nat):∀ (k i:Nat) (out:ByteArray),i≤l.length→l.length - i=d→d + 3 < k→
    nomination_Composite.l0 k out l (l.length:Int) (i:Int)=some (((l.drop i).filter isVal).foldl vmax out,((((l.drop i).filter isVal).foldl vmax out).toList != ([]:List UInt8))):=by
  induction d with
  | zero=>
    intro k i out hi hd hk
    obtain ⟨k,rfl⟩:∃ m,k=m + 1:=⟨k - 1,by omega⟩
    obtain rfl:i=l.length:=by omega
    simp only [nomination_Composite.l0]
    rw [if_neg (by omega)]
    simp
  | succ d ih=>
    intro k i out hi hd hk
    obtain ⟨k,rfl⟩:∃ m,k=m + 1:=⟨k - 1,by omega⟩
    have hlt:i < l.length:=by omega
    have hx:rdOf ByteArray.empty l (i:Int)=l[i]:=by
      unfold rdOf
      rw [Int.toNat_natCast,List.getD_eq_getElem?_getD,List.getElem?_eq_getElem hlt];rfl
    have hdr:l.drop i=l[i] :: l.drop (i + 1):=List.drop_eq_getElem_cons hlt
    simp only [nomination_Composite.l0]
    rw [if_pos (by omega),if_pos (by omega),if_pos (by omega),hx,value_ev,wrap_succ i l.length hlt hl]
    simp only [Option.bind_some]
    rw [hdr,List.filter_cons]
    by_cases hv:isVal l[i]=true
    · rw [if_pos hv,if_pos hv,compare_ev _ _ k (by omega)]
      simp only [Option.bind_some,List.foldl_cons]
      by_cases hc:cmpVal l[i] out > 0
      · rw [if_pos hc,ih k (i + 1) _ (by omega) (by omega) (by omega)]
        rw [cmpVal_gt] at hc
        simp [vmax,hc]
      · rw [if_neg hc,ih k (i + 1) _ (by omega) (by omega) (by omega)]
        rw [cmpVal_gt] at hc
        simp [vmax,hc]
    · rw [if_neg hv,if_neg hv,ih k (i + 1) _ (by omega) (by omega) (by omega)]
theorem composite_ev (l:List ByteArray) (hl:l.length < 4611686018427387904) (k:Nat) (hk:l.length + 3 < k):nomination_Composite.f k l=some (comp l,(comp l).toList != ([]:List UInt8)):=by
  unfold nomination_Composite.f
  exact composite_loop l hl l.length k 0 vnil (by omega) (by omega) hk
theorem vlt_asymm (a b:ByteArray) (h:vlt a b=true):vlt b a=false:=by
  cases hb:vlt b a with
  | false=>rfl
  | true=>have:=vlt_trans _ _ _ h hb;rw [vlt_irrefl] at this;cases this
theorem vlt_nil (a:ByteArray):vlt a vnil=false:=by
  have h1:vnil.size=0:=rfl
  have h2:Op.bytesLess a.toList vnil.toList=false:=by
    rw [show vnil.toList = [] by rw [ByteArray.toList_eq];rfl]
    cases a.toList <;> rfl
  unfold vlt
  rw [h1,h2]
  simp
theorem vmax_comm (a b:ByteArray):vmax a b=vmax b a:=by
  unfold vmax
  by_cases h:vlt a b=true
  · rw [if_pos h,if_neg (by rw [vlt_asymm _ _ h];simp)]
  · rw [if_neg h]
    by_cases h2:vlt b a=true
    · rw [if_pos h2]
    · rw [if_neg h2]
      exact vlt_total _ _ (by simpa using h) (by simpa using h2)
theorem vmax_assoc (a b c:ByteArray):vmax (vmax a b) c=vmax a (vmax b c):=by
  unfold vmax
  by_cases h1:vlt a b=true <;> by_cases h2:vlt b c=true
  · simp [h1,h2,vlt_trans _ _ _ h1 h2]
  · simp [h1,h2]
  · simp only [h1,h2,if_true,if_false,Bool.false_eq_true]
  · have h3:vlt a c=false:=vlt_ntrans _ _ _ (by simpa using h1) (by simpa using h2)
    simp [h1,h2,h3]
theorem vmax_nil_left (a:ByteArray):vmax vnil a=a:=by
  unfold vmax
  by_cases h:vlt vnil a=true
  · rw [if_pos h]
  · rw [if_neg h]
    exact vlt_total _ _ (by simpa using h) (vlt_nil a)
theorem vmax_nil_right (a:ByteArray):vmax a vnil=a:=by rw [vmax_comm,vmax_nil_left]
theorem foldl_vmax (l:List ByteArray) (a:ByteArray):l.foldl vmax a=vmax a (l.foldl vmax vnil):=by
  induction l generalizing a with
  | nil=>simp [vmax_nil_right]
  | cons x l ih=>rw [List.foldl_cons,List.foldl_cons,ih,vmax_nil_left,ih x,vmax_assoc]
theorem comp_append (a b:List ByteArray):comp (a ++ b)=vmax (comp a) (comp b):=by
  unfold comp
  rw [List.filter_append,List.foldl_append,foldl_vmax]
theorem comp_mem (l:List ByteArray):comp l=vnil∨(comp l ∈ l∧isVal (comp l)=true):=by
  unfold comp
  suffices h:∀ (l:List ByteArray) (a:ByteArray),(∀ x ∈ l,isVal x=true)→l.foldl vmax a=a∨(l.foldl vmax a ∈ l∧isVal (l.foldl vmax a)=true) by
    rcases h (l.filter isVal) vnil (fun x hx=>(List.mem_filter.1 hx).2) with h|h
    · exact .inl h
    · exact .inr ⟨(List.mem_filter.1 h.1).1,h.2⟩
  intro l
  induction l with
  | nil=>intro a _;exact .inl rfl
  | cons x l ih=>
    intro a hv
    rw [List.foldl_cons]
    have hx:=hv x (by simp)
    rcases ih (vmax a x) (fun y hy=>hv y (by simp [hy])) with h|h
    · rw [h]
      unfold vmax
      split
      · exact .inr ⟨by simp,hx⟩
      · exact .inl rfl
    · exact .inr ⟨by simp [h.1],h.2⟩
theorem comp_val (l:List ByteArray):comp l=vnil∨isVal (comp l)=true:=(comp_mem l).imp id (·.2)
theorem vnil_toList:vnil.toList=([]:List UInt8):=by rw [ByteArray.toList_eq];rfl
theorem comp_pair (p q:ByteArray) (hp:p=vnil∨isVal p=true) (hq:q=vnil∨isVal q=true):comp [p,q]=vmax p q:=by
  have hn:isVal vnil=false:=by decide
  unfold comp
  rcases hp with rfl|hp <;> rcases hq with rfl|hq
  · simp [hn,vmax_nil_left]
  · simp [hn,hq,vmax_nil_left]
  · simp [hn,hp,vmax_nil_left,vmax_nil_right]
  · simp [hp,hq,vmax_nil_left]
theorem bne_nil (s:ByteArray):(s.toList != ([]:List UInt8))=decide (s≠vnil):=by
  by_cases h:s=vnil
  · subst h;simp [vnil_toList]
  · have:s.toList≠[]:=fun e=>h (ba_ext (by rw [e,vnil_toList]))
    simp [h,this]
theorem vmax_ne_nil (p q:ByteArray):decide (vmax p q≠vnil)=(decide (p≠vnil) || decide (q≠vnil)):=by
  by_cases hp:p=vnil
  · subst hp;simp [vmax_nil_left]
  · by_cases hq:q=vnil
    · subst hq;simp [vmax_nil_right,hp]
    · have:vmax p q≠vnil:=by unfold vmax;split <;> assumption
      simp [hp,hq,this]
theorem toList_beq (a b:ByteArray):(a.toList == b.toList)=decide (a=b):=by
  rw [Bool.eq_iff_iff,beq_iff_eq,decide_eq_true_iff]
  exact ⟨ba_ext,fun h=>by rw [h]⟩
theorem kept_inner (a b:List ByteArray) (x:ByteArray) (i:Nat) (hb:b.length < 4611686018427387904) (d:Nat):∀ (k j:Nat) (seen:Bool),j≤b.length→b.length - j=d→d < k→
    trustquorumlaw22_kept.l1 k b x seen a (a.length:Int) (i:Int) b (b.length:Int) (j:Int)=if (seen || (b.drop j).any (fun y=>decide (x=y)))=true then trustquorumlaw22_kept.l0 (k - d - 1) b a (a.length:Int) (wrap64 ((i:Int) + 1)) else some false:=by
  induction d with
  | zero=>
    intro k j seen hj hd hk
    obtain ⟨k,rfl⟩:∃ m,k=m + 1:=⟨k - 1,by omega⟩
    obtain rfl:j=b.length:=by omega
    simp only [trustquorumlaw22_kept.l1]
    rw [if_neg (by omega)]
    simp
  | succ d ih=>
    intro k j seen hj hd hk
    obtain ⟨k,rfl⟩:∃ m,k=m + 1:=⟨k - 1,by omega⟩
    have hlt:j < b.length:=by omega
    have hx:rdOf ByteArray.empty b (j:Int)=b[j]:=by
      unfold rdOf
      rw [Int.toNat_natCast,List.getD_eq_getElem?_getD,List.getElem?_eq_getElem hlt];rfl
    have hdr:b.drop j=b[j] :: b.drop (j + 1):=List.drop_eq_getElem_cons hlt
    simp only [trustquorumlaw22_kept.l1]
    rw [if_pos (by omega),if_pos (by omega),if_pos (by omega),hx,wrap_succ j b.length hlt hb,hdr,toList_beq]
    cases seen with
    | true=>rw [if_pos rfl,ih k (j + 1) true (by omega) (by omega) (by omega)];simp
    | false=>
      rw [if_neg (by simp),ih k (j + 1) _ (by omega) (by omega) (by omega)]
      rw [Bool.false_or,List.any_cons,show k + 1 - (d + 1) - 1=k - d - 1 by omega]
open Classical in
theorem kept_one (b:List ByteArray) (x:ByteArray) (hb:b.length < 1000000) (k:Nat) (hk:b.length + 5 < k):trustquorumlaw22_kept.f k [x] b=some (decide (x ∈ b)):=by
  obtain ⟨k,rfl⟩:∃ m,k=m + 1:=⟨k - 1,by omega⟩
  unfold trustquorumlaw22_kept.f
  simp only [trustquorumlaw22_kept.l0]
  rw [if_pos (by simp),if_pos (by omega),if_pos (by simp)]
  have h:=kept_inner [x] b x 0 (by omega) b.length k 0 false (by omega) (by omega) (by omega)
  have hr:rdOf ByteArray.empty [x] 0=x:=rfl
  rw [hr]
  refine Eq.trans h ?_
  by_cases hm:x ∈ b
  · have:(false || (b.drop 0).any fun y=>decide (x=y))=true:=by simp [hm]
    rw [if_pos this]
    obtain ⟨m,hm2⟩:∃ m,k - b.length - 1=m + 1:=⟨k - b.length - 2,by omega⟩
    rw [hm2]
    simp only [trustquorumlaw22_kept.l0]
    rw [if_neg (by simp [wrap64])]
    simp [hm]
  · have : ¬ ((false || (b.drop 0).any fun y=>decide (x=y))=true):=by simpa using hm
    rw [if_neg this]
    simp [hm]
end Go.Proofs.Ytnkpakakgfkpbaa.P
end
