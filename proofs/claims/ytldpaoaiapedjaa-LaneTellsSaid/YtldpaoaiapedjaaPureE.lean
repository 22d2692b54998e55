/- Lanes are the same just if they are equal: the program's way. Condition: lengths below what memory holds. -/
import Derived.Test.YtldpaoaiapedjaaPureA
import Derived.Test.YtldpaoaiapedjaaQ18
namespace Go.Proofs.Ytldpaoaiapedjaa.Pure
open Go.RowKit Go.Proofs.Ytldpaoaiapedjaa.Q Go.Proofs.YtldpaoaiapedjaaW.PrintWords Go.Proofs.YtldpaoaiapedjaaW.PrintLast Go.Proofs.YtldpaoaiapedjaaW.PrintMore
/-- Each batch's row of texts has a length. -/
def shortE (l : List S42) : Prop := ∀ x ∈ l, x.f2.length ≤ 9223372036854775806
theorem bytesE {x y : ByteArray} (h : x.toList = y.toList) : x = y := by
  rw [ByteArray.toList_eq, ByteArray.toList_eq] at h
  apply ByteArray.ext
  exact Array.toList_inj.1 h
theorem S42_eq (x y : S42) : (x.f0 = y.f0 ∧ x.f1 = y.f1 ∧ x.f2 = y.f2) ↔ x = y := by
  constructor
  · rintro ⟨h0, h1, h2⟩
    cases x; cases y
    simp only at h0 h1 h2
    subst h0 h1 h2
    rfl
  · rintro rfl
    exact ⟨rfl, rfl, rfl⟩
theorem dropE {α : Type} (l m : List α) (j : Nat) (hl : j < l.length) (hm : j < m.length) : (l.drop j = m.drop j) ↔ (l[j] = m[j] ∧ l.drop (j + 1) = m.drop (j + 1)) := by
  rw [List.drop_eq_getElem_cons hl, List.drop_eq_getElem_cons hm]
  exact ⟨fun h => ⟨(List.cons.inj h).1, (List.cons.inj h).2⟩, fun h => by rw [h.1, h.2]⟩
theorem dropE_end {α : Type} (l m : List α) (j : Nat) (hl : l.length = j) (hm : m.length = j) : l.drop j = m.drop j := by
  rw [List.drop_eq_nil_of_le (by omega), List.drop_eq_nil_of_le (by omega)]
/-- Answers yes just if P. -/
def Says (g : Nat → Option Bool) (P : Prop) : Prop := (P → Ev g true) ∧ (¬ P → Ev g false)
theorem Says.step {g h : Nat → Option Bool} {P : Prop} (hs : ∀ k, g (k + 1) = h k) (s : Says h P) : Says g P := ⟨fun p => Ev.step hs (s.1 p), fun p => Ev.step hs (s.2 p)⟩
theorem Says.iff {g : Nat → Option Bool} {P Q : Prop} (s : Says g P) (h : P ↔ Q) : Says g Q := ⟨fun q => s.1 (h.2 q), fun q => s.2 (fun p => q (h.1 p))⟩
theorem equalS_loop (l m : List ByteArray) (hl : l.length ≤ 9223372036854775806) (hm : l.length = m.length) (d : Nat) : ∀ j : Nat, j ≤ l.length → l.length - j = d → Says (fun k => equalS.l0 k l m (l.length : Int) (j : Int)) (l.drop j = m.drop j) := by
  induction d with
  | zero =>
    intro j hj hd
    refine ⟨fun _ => ?_, fun h => absurd (dropE_end l m j (by omega) (by omega)) h⟩
    refine Ev.step (f := fun _ => some _) (fun k => ?_) (Ev.now _)
    rw [equalS.l0, if_neg (by omega)]
  | succ d ih =>
    intro j hj hd
    have h1 : j < l.length := by omega
    have h2 : j < m.length := by omega
    by_cases h : l[j] = m[j]
    · refine Says.iff (Says.step (fun k => ?_) (ih (j + 1) (by omega) (by omega))) ?_
      · rw [equalS.l0, if_pos (by omega), if_pos (by omega), if_pos (by omega), if_pos (by omega), rdS_at l j h1, rdS_at m j h2, if_pos (by rw [h]), wrap_small (by omega) (by omega)]
        rfl
      · rw [dropE l m j h1 h2]; exact ⟨fun e => ⟨h, e⟩, fun e => e.2⟩
    · refine ⟨fun e => absurd ((dropE l m j h1 h2).1 e).1 h, fun _ => ?_⟩
      refine Ev.step (f := fun _ => some _) (fun k => ?_) (Ev.now _)
      rw [equalS.l0, if_pos (by omega), if_pos (by omega), if_pos (by omega), if_pos (by omega), rdS_at l j h1, rdS_at m j h2, if_neg (fun e => h (bytesE e))]
theorem equalS_says (l m : List ByteArray) (hl : l.length ≤ 9223372036854775806) : Says (fun k => equalS.f k l m) (l = m) := by
  unfold equalS.f
  by_cases h : l.length = m.length
  · simp only [if_pos (show (l.length : Int) = (m.length : Int) by omega)]
    exact equalS_loop l m hl h l.length 0 (Nat.zero_le _) (by omega)
  · simp only [if_neg (show ¬ (l.length : Int) = (m.length : Int) by omega)]
    exact ⟨fun e => absurd (by rw [e]) h, fun _ => Ev.now _⟩
theorem batchSame_says (x y : S42) (hl : x.f2.length ≤ 9223372036854775806) : Says (fun k => batch_Same.f k x.f0 x.f1 x.f2 y.f0 y.f1 y.f2) (x = y) := by
  unfold batch_Same.f
  by_cases h0 : x.f0 = y.f0
  · by_cases h1 : x.f1 = y.f1
    · simp only [if_pos h0, if_pos h1]
      refine Says.iff (P := x.f2 = y.f2) ⟨fun p => ?_, fun p => ?_⟩ ?_
      · refine Ev.bind ((equalS_says _ _ hl).1 p) ?_; exact Ev.now _
      · refine Ev.bind ((equalS_says _ _ hl).2 p) ?_; exact Ev.now _
      · rw [← S42_eq]; exact ⟨fun e => ⟨h0, h1, e⟩, fun e => e.2.2⟩
    · simp only [if_pos h0, if_neg h1]
      exact ⟨fun e => absurd (by rw [e]) h1, fun _ => Ev.now _⟩
  · simp only [if_neg h0]
    exact ⟨fun e => absurd (by rw [e]) h0, fun _ => Ev.now _⟩
theorem equalB_loop (l m : List S42) (hl : l.length ≤ 9223372036854775806) (hs : shortE l) (hm : l.length = m.length) (d : Nat) : ∀ j : Nat, j ≤ l.length → l.length - j = d → Says (fun k => equalB.l0 k m l (l.length : Int) (j : Int)) (l.drop j = m.drop j) := by
  induction d with
  | zero =>
    intro j hj hd
    refine ⟨fun _ => ?_, fun h => absurd (dropE_end l m j (by omega) (by omega)) h⟩
    refine Ev.step (f := fun _ => some _) (fun k => ?_) (Ev.now _)
    rw [equalB.l0, if_neg (by omega)]
  | succ d ih =>
    intro j hj hd
    have h1 : j < l.length := by omega
    have h2 : j < m.length := by omega
    have hih := ih (j + 1) (by omega) (by omega)
    have hb := batchSame_says l[j] m[j] (hs _ (List.getElem_mem h1))
    refine Says.step (h := fun k => (batch_Same.f k l[j].f0 l[j].f1 l[j].f2 m[j].f0 m[j].f1 m[j].f2).bind fun t => (if t = true then (equalB.l0 k m l (l.length : Int) (((j + 1 : Nat)) : Int)) else (some false))) (fun k => ?_) ?_
    · rw [equalB.l0, if_pos (by omega), if_pos (by omega), if_pos (by omega), if_pos (by omega), rd_at42 l j h1, rd_at42 m j h2, wrap_small (by omega) (by omega)]
      rfl
    · rw [show (l.drop j = m.drop j) = (l[j] = m[j] ∧ l.drop (j + 1) = m.drop (j + 1)) from propext (dropE l m j h1 h2)]
      by_cases h : l[j] = m[j]
      · refine ⟨fun e => ?_, fun e => ?_⟩
        · refine Ev.bind (hb.1 h) ?_
          simp only [if_true]
          exact hih.1 e.2
        · refine Ev.bind (hb.1 h) ?_
          simp only [if_true]
          exact hih.2 (fun e2 => e ⟨h, e2⟩)
      · refine ⟨fun e => absurd e.1 h, fun _ => ?_⟩
        refine Ev.bind (hb.2 h) ?_
        simp only [if_neg (show ¬ (false = true) by decide)]
        exact Ev.now _
theorem equalB_says (l m : List S42) (hl : l.length ≤ 9223372036854775806) (hs : shortE l) : Says (fun k => equalB.f k l m) (l = m) := by
  unfold equalB.f
  by_cases h : l.length = m.length
  · simp only [if_pos (show (l.length : Int) = (m.length : Int) by omega)]
    exact equalB_loop l m hl hs h l.length 0 (Nat.zero_le _) (by omega)
  · simp only [if_neg (show ¬ (l.length : Int) = (m.length : Int) by omega)]
    exact ⟨fun e => absurd (by rw [e]) h, fun _ => Ev.now _⟩
theorem laneSame_says (a n : Int) (p : List ByteArray) (op : List S42) (b m : Int) (q : List ByteArray) (oq : List S42) (hp : p.length ≤ 9223372036854775806) (hl : op.length ≤ 9223372036854775806) (hs : shortE op) :
    Says (fun k => lane_Same.f k a n p op b m q oq) (a = b ∧ n = m ∧ p = q ∧ op = oq) := by
  unfold lane_Same.f lane_held_same.f
  have s1 := equalS_says p q hp
  have s2 := equalB_says op oq hl hs
  by_cases h0 : a = b
  · by_cases h1 : n = m
    · simp only [if_pos h0, if_pos h1]
      by_cases h2 : p = q
      · refine ⟨fun e => ?_, fun e => ?_⟩
        · refine Ev.bind (r := true) ?_ (Ev.now _)
          refine Ev.bind (s1.1 h2) ?_
          simp only [if_true]
          refine Ev.bind (s2.1 e.2.2.2) ?_
          exact Ev.now _
        · refine Ev.bind (r := false) ?_ (Ev.now _)
          refine Ev.bind (s1.1 h2) ?_
          simp only [if_true]
          refine Ev.bind (s2.2 (fun e2 => e ⟨h0, h1, h2, e2⟩)) ?_
          exact Ev.now _
      · refine ⟨fun e => absurd e.2.2.1 h2, fun _ => ?_⟩
        refine Ev.bind (r := false) ?_ (Ev.now _)
        refine Ev.bind (s1.2 h2) ?_
        simp only [if_neg (show ¬ (false = true) by decide)]
        exact Ev.now _
    · simp only [if_pos h0, if_neg h1]
      exact ⟨fun e => absurd e.2.1 h1, fun _ => Ev.bind (Ev.now _) (Ev.now _)⟩
  · simp only [if_neg h0]
    exact ⟨fun e => absurd e.1 h0, fun _ => Ev.bind (Ev.now _) (Ev.now _)⟩
theorem laneSame_self (a n : Int) (p : List ByteArray) (op : List S42) (hp : p.length ≤ 9223372036854775806) (hl : op.length ≤ 9223372036854775806) (hs : shortE op) : Ev (fun k => lane_Same.f k a n p op a n p op) true :=
  (laneSame_says a n p op a n p op hp hl hs).1 ⟨rfl, rfl, rfl, rfl⟩
end Go.Proofs.Ytldpaoaiapedjaa.Pure
