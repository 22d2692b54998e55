/- seats.List hands back the seats of a set, rising, in memory of its own; nothing that lay turns. Condition: the table of math/bits lies in its variable. -/
import Derived.RangeFuncNested
import Derived.RangeFuncBound
import Derived.RangeFuncCalls
import Derived.RangeFuncLeaves
import Derived.RangeFuncBox
import Derived.Shelf.Abstract
import Derived.Shelf.RegionOpen
import Derived.WalkKit
import Derived.OwnWalkIn
import Derived.TacticsInMore
import Derived.LoopNIn
import Derived.LoopIn
import Derived.Maps.AppendAt
import Derived.Shelf.Spec.TrailingZeros
import Derived.Lib.Hide
import Derived.WalkMore
import Derived.Test.YtcbehldoocfiiaaDoorBits
import Derived.Test.YtcbehldoocfiiaaDoorQ0
namespace Go.Proofs.YtcbehldoocfiiaaDoor.Q
open Go.RowKit Go.Shelf Go.Proofs.YtcbehldoocfiiaaDoorW.PrintWords Go.Proofs.YtcbehldoocfiiaaDoorW.PrintLast Go.Proofs.YtcbehldoocfiiaaDoorW.PrintMore

attribute [local go_sem] Oper.semAt_some

set_option maxHeartbeats 1000000 in
theorem tz_core (x k idx : Nat) (w : World) (hx0 : ((x : Int) == 0) = false)
    (key : IntKind.u64.wrap (Go.bits BinOp.and IntKind.u64 (x : Int) (IntKind.u64.wrap (-(x : Int))) * 285870213051353865) / 288230376151711744 = (idx : Int))
    (hi : idx < 64) (hk : k < 64) (hcell : w.cell? ⟨0, idx, none⟩ = some (.int .u8 k)) :
    Calls Tryd.prog 37 #[.int .u64 x] w fun e w' => e = .returned (.int .i64 k) ∧ w' = w := by
  go_enter Tryd.func37, Tryd.ntmps37
  go_wp2_with (simp only [key])
  go_ret
  exact ⟨rfl, rfl⟩

theorem tz_any (x : Nat) (hx0 : x ≠ 0) (hx : x < 18446744073709551616) (w : World) (ht : Tab w) :
    Calls Tryd.prog 37 #[.int .u64 x] w fun e w' => e = .returned (.int .i64 ((Lib.ctz 64 x : Nat) : Int)) ∧ w' = w := by
  obtain ⟨hlow, hk⟩ := Lib.lowest_bit 64 x hx0 hx
  obtain ⟨hi, htab⟩ := Lib.deBruijn64_at _ hk
  have hcell := ht _ hi
  rw [htab] at hcell
  exact tz_core x _ _ w (by simp; omega) (tz64_key x _ hx hx0 hlow) hi hk hcell

set_option maxHeartbeats 1000000 in
/-- each(set): the set is boxed; the function value captures the box. -/
theorem each_in (F : Fence) (n : Nat) (h5 : F.fn 35) (hro : F.round = none) (x : Int) (w : World) :
    CallsIn F n Tryd.prog 35 #[.int .u64 x] w fun e w' => e = .returned (.func (.func 36) #[] #[.pointer (some ⟨w.heap.size, 0, none⟩)]) ∧ w' = w.alloc (.cells #[.int .u64 x] 25) := by
  refine callsIn_of_wp Tryd.func35 rfl h5 ?_ hro
  simp only [Tryd.ntmps35, List.size_toArray, List.length_cons, List.length_nil, Nat.reduceAdd, Nat.reduceSub, Array.replicate_succ, Array.replicate_zero, List.push_toArray, List.append_toArray, List.nil_append, List.cons_append]
  gi_wp2
  go_ret
  exact ⟨rfl, rfl⟩

/-- What the walk reckons for 'set &= set - 1'. -/
theorem clear_key (x : Nat) (h0 : x ≠ 0) (hx : x < 18446744073709551616) :
    Go.bits BinOp.and IntKind.u64 (x : Int) (IntKind.u64.wrap ((x : Int) - 1)) = ((x &&& (x - 1) : Nat) : Int) := by
  have e1 : IntKind.u64.wrap ((x : Int) - 1) = ((x - 1 : Nat) : Int) := by rw [IntKind.wrap_u64]; omega
  rw [e1, bits_and_u64_nat x _ hx (by omega)]

def BelowTop (x : Nat) : Prop := x < 18446744073709551616

set_option maxRecDepth 100000 in
set_option maxHeartbeats 1000000 in
/-- The iterator of 'each', at a loop that keeps S: S pre y: pre have come, y is left in the set's box. -/
theorem each1_in (m l Bs : Nat) (hm : 1 ≤ m) (S : List Int → Nat → World → Prop) (all : List Int)
    (hbox : ∀ pre y W, S pre y W → Boxed W Bs 25 (.int .u64 (y : Int)) ∧ Tab W)
    (hset : ∀ pre y y' W, S pre y W → S pre y' (W.setCell ⟨Bs, 0, none⟩ (.int .u64 (y' : Int))))
    (hY : ∀ pre y (x : Int) W, S pre y W → pre.length < 64 → YieldAt Fence.wide (m - 1) Tryd.prog l #[.int .i64 x] W fun e W' => e = .returned (.bool true) ∧ S (pre ++ [x]) y W')
    (W : World) (y0 : Nat) (hy0 : BelowTop y0) (hall : seatsOf y0 = all) (h0 : S [] y0 W) :
    CallsIn Fence.wide m Tryd.prog 36 #[.func (.yield l) #[] #[], .pointer (some ⟨Bs, 0, none⟩)] W fun e W' => (∃ v, e = .returned v) ∧ S all 0 W' := by
  refine callsIn_of_wp Tryd.func36 rfl trivial ?_ rfl
  simp only [Tryd.ntmps36, List.size_toArray, List.length_cons, List.length_nil, Nat.reduceAdd, Nat.reduceSub, Array.replicate_succ, Array.replicate_zero, List.push_toArray, List.append_toArray, List.nil_append, List.cons_append]
  have hLen := Lib.hid (seatsOf_length_le y0)
  refine wpIn_wide.2 (wp_scope_straight ((wpIn_wide (n := m)).1 ?_))
  refine wpIn_seq (wpIn_label ?_)
  gi_wp2
  gi_loopw [3] (fun _ wr => ∃ (pre : List Int) (y : Nat), BelowTop y ∧ pre ++ seatsOf y = all ∧ S pre y wr)
    (fun _ wr => match wr.cell? ⟨Bs, 0, none⟩ with | some (.int _ y) => y.toNat | _ => 0)
  case atStart =>
    exact ⟨[], y0, hy0, by simpa using hall, h0⟩
  case round =>
    obtain ⟨pre, y, hy, hp, hS⟩ := hrel
    obtain ⟨hB, hT⟩ := hbox _ _ _ hS
    have hc := hB.cell
    by_cases h0y : y = 0
    · subst h0y
      have hz : ((0 : Nat) : Int) = 0 := rfl
      gi_wp2
      rw [Exit.noGoto_normal]
      go_end0
      have e0 : pre = all := by rw [← hp, seatsOf_zero, List.append_nil]
      exact ⟨⟨_, rfl⟩, by rw [← e0]; exact hS⟩
    · have hst := seatsOf_step y h0y hy
      have hlt := clear_lt y h0y
      have hpl : pre.length < 64 := by
        have h1 := congrArg List.length hp
        have h2 := hLen.out
        rw [hall, ← hp] at h2
        rw [hst] at h2
        simp at h2; omega
      have hctz := (Lib.lowest_bit 64 y h0y hy).2
      have hne : ((y : Int) == 0) = false := by simp; exact h0y
      have hne2 : ((y : Int) != 0) = true := by simp; exact h0y
      have hk := clear_key y h0y hy
      have hS2 := hset pre y (y &&& (y - 1)) wr hS
      obtain ⟨hB2, hT2⟩ := hbox _ _ _ hS2
      obtain ⟨fn, tmps, assign, body, hyl, hR⟩ := hY pre (y &&& (y - 1)) (((Lib.ctz 64 y : Nat) : Int) + 1) _ hS2 hpl
      have hwr : IntKind.i64.wrap (((Lib.ctz 64 y : Nat) : Int) + 1) = ((Lib.ctz 64 y : Nat) : Int) + 1 := by rw [IntKind.wrap_i64]; omega
      have hf := hB.frozen
      have HR := Lib.hid hR; clear hR
      have HST := Lib.hid hst; clear hst
      have HP := Lib.hid hp; clear hp
      have HLT := Lib.hid hlt; clear hlt
      have HS2 := Lib.hid hS2; clear hS2
      have hf37 : Fence.wide.fn 37 := trivial
      gi_wp2_with (first | (gi_at_call 37; refine (callsIn_wide.2 (tz_any y h0y hy _ hT)).mono ?_; rintro e w' ⟨rfl, rfl⟩))
      refine HR.out.mono ?_
      rintro e W3 ⟨rfl, hS3⟩
      obtain ⟨hB3, _⟩ := hbox _ _ _ hS3
      have hc3 := hB3.cell
      have HC3 := Lib.hid hc3; clear hc3
      gi_wp2
      go_roundw
      case rel => exact ⟨pre ++ [((Lib.ctz 64 y : Nat) : Int) + 1], y &&& (y - 1), Nat.lt_trans HLT.out hy, by rw [List.append_assoc]; show pre ++ ((((Lib.ctz 64 y : Nat) : Int) + 1) :: seatsOf (y &&& (y - 1))) = all; rw [← HST.out]; exact HP.out, hS3⟩
      case measure => rw [HC3.out, hc]; show ((y &&& (y - 1) : Nat) : Int).toNat < ((y : Int)).toNat; rw [Int.toNat_natCast, Int.toNat_natCast]; exact HLT.out

/-- How the body of a round over 'each' may be left: on, the records as they lay, the set's box as it lay, I one seat further. -/
def bodyEach (Bs : Nat) (I : List Int → World → Prop) (xs : List Int) (W : World) : Exit → Act → World → Prop
  | .normal, _, W' => KeepsOthers W W' ∧ (∀ v, Boxed W Bs 25 v → Boxed W' Bs 25 v) ∧ I xs W'
  | _, _, _ => False

set_option maxRecDepth 100000 in
/-- 'for id := range each(set)': the iterator's value is at hand; a body that never leaves. -/
theorem range_each {g : Operand} {p : Tmp} {assign body : Code} {Q : Exit → Act → World → Prop} {a : Act} {w : World} {n Bs y0 : Nat} (h1 : 2 ≤ n)
    (hg : a.eval g = .func (.func 36) #[] #[.pointer (some ⟨Bs, 0, none⟩)]) (hb : Boxed w Bs 25 (.int .u64 (y0 : Int))) (hy0 : BelowTop y0)
    (I : List Int → World → Prop) (hT : ∀ pre W, I pre W → Tab W)
    (hI : ∀ pre W W' row, I pre W → W.grownBy W' row → (∀ r, row = some r → (r = Bs ∧ ∃ u, Boxed W Bs 25 u) ∨ w.heap.size ≤ r ∧ ∃ o : Obj, W.heap[r]? = some o ∧ o.isCells = false) → I pre W')
    (h0 : I [] w) (a₁ : Int → Act)
    (hassign : ∀ (l : Nat) (x : Int) (W : World) (K : Act → World → Prop), K (a₁ x) W →
      assign.wpIn (Fence.wide.inRound l) (n - 1 - 1) Tryd.prog (Exit.then K (fun _ _ _ => False)) { tmps := ((#[p] : Array Tmp).zip #[Value.int .i64 x]).foldl (fun t (p, v) => t.setIfInBounds p v) a.tmps, defers := [] } W)
    (hbody : ∀ (l : Nat) (pre : List Int) (x : Int) (W : World), I pre W → pre.length < 64 → Bs < W.heap.size → body.wpIn (Fence.wide.inRound l) (n - 1 - 1) Tryd.prog (bodyEach Bs I (pre ++ [x]) W) (a₁ x) W)
    (hdone : ∀ (D : Nat) (W : World), w.heap.size ≤ D → I (seatsOf y0) W → W.heap[D]? = some (.deferred (some [])) → Q .normal { a with defers := { target := .collected D, args := #[] } :: a.defers } W) :
    (Code.rangeFunc g #[p] assign body).wpIn Fence.wide n Tryd.prog Q a w := by
  refine wpIn_rangeFunc ?_
  intro fn hfn
  obtain ⟨rec, hrec⟩ : ∃ rec : LoopState → Option Code → Loop, rec = fun st pe => { state := st, pending := pe, fn, tmps := a.tmps, params := #[p], assign, body, defers := w.heap.size } := ⟨_, rfl⟩
  obtain ⟨W1, hW1⟩ : ∃ W1, (w.alloc (.deferred (some []))).alloc (.loop (rec .ready none)) = W1 := ⟨_, rfl⟩
  have hBs := hb.lt
  have hL1 : W1.heap[w.heap.size + 1]? = some (.loop (rec .ready none)) := by
    rw [← hW1]; have := World.alloc_heap_new (w.alloc (.deferred (some []))) (.loop (rec .ready none)); rwa [World.size_alloc] at this
  have hK1 : W1.heap[w.heap.size]? = some (.deferred (some [])) := by
    rw [← hW1]; exact (Below.heap_alloc _ _ _ (by simp)).trans (World.alloc_heap_new w _)
  have hI1 : I [] W1 := by
    rw [← hW1]
    exact hI _ _ _ none (hI _ _ _ none h0 (World.grownBy_alloc w _ none) (fun r e => by cases e)) (World.grownBy_alloc _ _ none) (fun r e => by cases e)
  have hb1 : Boxed W1 Bs 25 (.int .u64 (y0 : Int)) := by rw [← hW1]; exact (hb.alloc _).alloc _
  refine ⟨w.heap.size + 1, [{ target := .collected w.heap.size, args := #[] }], W1, { target := .fn (.func 36) #[.pointer (some ⟨Bs, 0, none⟩)], args := #[.func (.yield (w.heap.size + 1)) #[] #[]] }, W1, 36,
    #[.func (.yield (w.heap.size + 1)) #[] #[]] ++ #[.pointer (some ⟨Bs, 0, none⟩)], W1, ?_, ?_, ?_, ?_, fun _ => by omega, ?_⟩
  · rw [← hW1, hrec]; exact run_enterLoop_outer _ _ _ _ _
  · simp only [resolve, hg]
    simp [go_sem]
  · intro f' _; trivial
  · simp [invoke, go_sem]
  · refine (each1_in (n - 1) (w.heap.size + 1) Bs (by omega)
      (fun pre y W => I pre W ∧ Boxed W Bs 25 (.int .u64 (y : Int)) ∧ W.heap[w.heap.size + 1]? = some (.loop (rec .ready none)) ∧ W.heap[w.heap.size]? = some (.deferred (some [])))
      (seatsOf y0) (fun pre y W hS => ⟨hS.2.1, hT _ _ hS.1⟩) ?_ ?_ W1 y0 hy0 rfl ⟨hI1, hb1, hL1, hK1⟩).mono ?_
    · rintro pre y y' W ⟨hi, hB, hl, hk⟩
      exact ⟨hI _ _ _ (some Bs) hi (grownBy_setCell' W Bs _) (fun r e => by cases e; exact .inl ⟨rfl, _, hB⟩), hB.set _, (Below.heap_setCell W ⟨Bs, 0, none⟩ _ _ (by show w.heap.size + 1 ≠ Bs; omega)).trans hl, (Below.heap_setCell W ⟨Bs, 0, none⟩ _ _ (by show w.heap.size ≠ Bs; omega)).trans hk⟩
    · rintro pre y x W ⟨hi, hB, hl, hk⟩ hlen
      have hlt : w.heap.size + 1 < W.heap.size := (Array.getElem?_eq_some_iff.1 hl).1
      have hyl := run_yield (P := Tryd.prog) (args := #[Value.int .i64 x]) hl (by rw [hrec]; rfl)
      rw [hrec] at hyl
      refine ⟨fn, _, assign, body, hyl, roundIn_of_wpIn hfn (hassign _ x W _ ⟨_, run_beginRound hl (by rw [hrec]), ?_⟩)⟩
      have hl2 : (W.putObj (w.heap.size + 1) (.loop { rec .ready none with state := .busy })).heap[w.heap.size + 1]? = some (.loop { rec .ready none with state := .busy }) := World.putObj_heap_same hlt
      have hk2 : (W.putObj (w.heap.size + 1) (.loop { rec .ready none with state := .busy })).heap[w.heap.size]? = some (.deferred (some [])) := (World.putObj_heap_other (by omega)).trans hk
      have hB2 : Boxed (W.putObj (w.heap.size + 1) (.loop { rec .ready none with state := .busy })) Bs 25 (.int .u64 (y : Int)) := (World.putObj_heap_other (by omega)).trans hB
      have hi2 : I pre (W.putObj (w.heap.size + 1) (.loop { rec .ready none with state := .busy })) := hI _ _ _ (some (w.heap.size + 1)) hi (grownBy_putObj' W _ _) (fun r e => by cases e; exact .inr ⟨by omega, _, hl, rfl⟩)
      refine wpIn_mono (hbody _ pre x _ hi2 hlen hB2.lt) ?_
      rintro e a3 W3 hp
      cases e with
      | normal =>
        obtain ⟨hk3, hb3, hi3⟩ := hp
        have hl3 := hk3.same _ _ hl2 rfl
        have hr := run_endRound (P := Tryd.prog) none hl3
        have hd3 := hk3.same _ _ hk2 rfl
        rw [hrec] at hr hl3 ⊢
        refine ⟨_, _, hr, rfl, hI _ _ _ (some (w.heap.size + 1)) hi3 (grownBy_putObj' W3 _ _) (fun r e => by cases e; exact .inr ⟨by omega, _, hl3, rfl⟩), (World.putObj_heap_other (by omega)).trans (hb3 _ hB2), World.putObj_heap_same (Array.getElem?_eq_some_iff.1 hl3).1, (World.putObj_heap_other (by omega)).trans hd3⟩
      | ret => exact hp.elim
      | exit id => exact hp.elim
      | goto t => exact hp.elim
      | panic ch => exact hp.elim
      | outgrown => exact hp.elim
    · rintro e W2 ⟨⟨v, rfl⟩, hi, hB, hl, hk⟩
      refine ⟨none, _, by have := run_endLoop (P := Tryd.prog) hl (by rw [hrec]; simp); rw [hrec] at this; exact this, ?_⟩
      exact hdone _ _ (Nat.le_refl _) (hI _ _ _ (some (w.heap.size + 1)) hi (grownBy_putObj' W2 _ _) (fun r e => by cases e; exact .inr ⟨by omega, _, hl, rfl⟩)) ((World.putObj_heap_other (by omega)).trans hk)

theorem row_keep {W W' : World} {row : Option Nat} {base : Nat} {v : Value} {n : Nat} {xs : List Value} (h : W.ownsRow base 3 1 v n xs) (hg : W.grownBy W' row)
    (hr : ∀ r, row = some r → (∃ o : Obj, W.heap[r]? = some o ∧ o.isCells = false) ∨ (∃ u, Boxed W r 25 u)) : W'.ownsRow base 3 1 v n xs := by
  refine own_other h hg ?_
  rcases h.2 with ⟨rfl, _⟩ | ⟨g, cap, cur, rfl, _, hgb, _⟩
  · exact .inl rfl
  · refine .inr fun e' => ?_
    rcases hr g (by simpa [Value.ownBlock] using e'.symm) with ⟨o, ho, hc⟩ | ⟨u, hu⟩
    · rw [hgb] at ho; cases ho; cases hc
    · rw [show W.heap[g]? = _ from hu] at hgb; simp at hgb

set_option maxRecDepth 100000 in
set_option maxHeartbeats 2000000 in
/-- seats.List, every set. -/
theorem list_any (x : Nat) (hx : BelowTop x) (w : World) (ht : Tab w) :
    Calls Tryd.prog 28 #[.int .u64 (x : Int)] w fun e w' => ∃ v : Value, e = .returned v ∧ w'.ownsRow w.heap.size 3 1 v (seatsOf x).length ((seatsOf x).map (Value.int .i64)) ∧ Below w.heap.size w w' := by
  refine (callsIn_wide (n := 4)).1 ?_
  obtain ⟨i0, hi, hz0, hz1, hz2⟩ := info_parts info3
  refine callsIn_of_wp_marks Tryd.func28 rfl trivial ?_ rfl
  simp only [Tryd.ntmps28, List.size_toArray, List.length_cons, List.length_nil, Nat.reduceAdd, Nat.reduceSub, Array.replicate_succ, Array.replicate_zero, List.push_toArray, List.append_toArray, List.nil_append, List.cons_append]
  have hf35 : Fence.wide.fn 35 := trivial
  gi_wp2_with (gi_at_call 35; refine (each_in Fence.wide 3 trivial rfl _ _).mono ?_; rintro e w' ⟨rfl, rfl⟩)
  have bO := Boxed.new w 34 (.slice none 0 0)
  have bS := Boxed.new (w.alloc (.cells #[.slice none 0 0] 34)) 25 (.int .u64 (x : Int))
  rw [World.size_alloc] at bS
  have hB0 : Below w.heap.size w ((w.alloc (.cells #[.slice none 0 0] 34)).alloc (.cells #[.int .u64 (x : Int)] 25)) := ((Below.refl _ w).alloc (Nat.le_refl _) _).alloc (by simp) _
  have ht0 := World.block_lt_of_cell? w _ (ht 0 (by omega))
  refine range_each (n := 4) (Bs := w.heap.size + 1) (y0 := x) (by omega) rfl bS hx
    (fun pre W => (∃ v, Boxed W w.heap.size 34 v ∧ W.ownsRow w.heap.size 3 1 v pre.length (pre.map (Value.int .i64))) ∧ Below w.heap.size w W)
    (fun pre W h => tab_b ht h.2) ?_ ⟨⟨_, bO.alloc _, World.ownsRow_nil _ _ _ _⟩, hB0⟩
    (fun x1 => { tmps := #[.int .u64 (x : Int), undef, .slice none 0 0, .pointer (some ⟨w.heap.size, 0, none⟩), .int .i64 x1, .int .u64 (x : Int), .func (.func 36) #[] #[.pointer (some ⟨w.heap.size + 1, 0, none⟩)], .int .i64 x1, undef, undef, undef, undef, undef], defers := [] }) ?_ ?_ ?_
  · rintro pre W W' row ⟨⟨v, hv, hr⟩, hB⟩ hg hrow
    have hsz : ((w.alloc (.cells #[.slice none 0 0] 34)).alloc (.cells #[.int .u64 (x : Int)] 25)).heap.size = w.heap.size + 2 := by simp
    refine ⟨⟨v, hv.kept hg (fun e' => ?_), row_keep hr hg fun r e' => ?_⟩, hB.grown hg hB.size fun k e' => ?_⟩
    · rcases hrow _ e'.symm with ⟨h, _⟩ | ⟨h, _⟩ <;> omega
    · rcases hrow r e' with ⟨rfl, u, hu⟩ | ⟨_, h⟩
      · exact .inr ⟨u, hu⟩
      · exact .inl h
    · rcases hrow k e' with ⟨rfl, _⟩ | ⟨h, _⟩ <;> omega
  · intro l x1 W K hK
    gi_wp2
    exact hK
  · rintro l pre x1 W ⟨⟨v, hv, hrow⟩, hB⟩ hlt hBs
    have hc := hv.cell
    have hpl : pre.length ≤ 64 := by omega
    gi_wp2_with (gi_at_builtin; refine wpListIn_append_own _ rfl _ _ 34 rfl w.heap.size 3 i0 (.int .i64 0) 1 8 Tryd.underlying34 hi hz0 hz1 hz2 rfl (by decide) _ _ _ rfl (hrow.alloc _) ⟨W.heap.size, 0, none⟩ 1 1 [.int .i64 x1] rfl rfl (cell_one_new _ _ _) (by simp [Value.oneCell']) (by unfold maxLen; omega) (by omega) (by have := hB.size; simp; omega) ?_; intro v' w1 hown' hgrow _; obtain ⟨g', cap', rfl⟩ := ownsRow_succ hown'; obtain ⟨hv1, hv2, hr2, hk2, hb2⟩ := hv.appended (by decide) hrow hB.size (Nat.le_refl _) hown' hgrow; have hc1 := hv1.cell; have hf1 := hv1.frozen)
    refine ⟨hk2, fun z hz => ?_, ⟨_, hv2, by simpa using hr2⟩, hB.trans hb2⟩
    exact ((hz.alloc _).kept hgrow (hz.not_row (by decide) hrow)).kept (grownBy_setCell' w1 w.heap.size _) (by simp)
  · rintro D W hD ⟨⟨v, hv, hrow⟩, hB⟩ hK
    have hc := hv.cell
    gi_wp2
    refine ⟨by simp, .inl ⟨_, _, rfl, run_takeDeferred hK, ?_⟩⟩
    exact ⟨_, results_tmp rfl _ _ _, v, rfl, ownsRow_putObj hrow _ hK rfl, hB.trans (belowK_b (w := w) (Nat.le_refl _) W D _ _ (by simp at hD; omega) hK rfl rfl)⟩

/-- What seats.List answers: of a uint64. -/
def seats_List.f (a0 : Int) : Option (List Int) := if 0 ≤ a0 ∧ a0 < 18446744073709551616 then some (seatsOf a0.toNat) else none

theorem seats_List.calls (a0 : Int) (r : List Int) (w : World) (ht : Tab w) (h : seats_List.f a0 = some r) :
    Calls Tryd.prog 28 #[.int .u64 a0] w fun e w' => ∃ v0_ : Value, e = .returned (v0_) ∧ Kd.R (Kd.int .i64) 3 w' w.heap.size (fun _ => True) v0_ r ∧ Below w.heap.size w w' := by
  unfold seats_List.f at h
  by_cases hb : 0 ≤ a0 ∧ a0 < 18446744073709551616
  · rw [if_pos hb] at h
    obtain rfl := Option.some.inj h
    obtain ⟨x, rfl⟩ := Int.eq_ofNat_of_zero_le hb.1
    refine (list_any x (by unfold BelowTop; omega) w ht).mono ?_
    rintro e w' ⟨v, rfl, hown, hbl⟩
    exact ⟨v, rfl, Kd.R_of_own (by simpa [encs] using hown) (fun _ _ => trivial), hbl⟩
  · rw [if_neg hb] at h
    cases h

end Go.Proofs.YtcbehldoocfiiaaDoor.Q
