/- Which batches may be, and which lanes are right, in closed form: the document's way. Condition: lengths below what memory holds. -/
import Derived.Test.YtldpaoaiapedjaaPureA
import Derived.Test.YtldpaoaiapedjaaQ4
namespace Go.Proofs.Ytldpaoaiapedjaa.Pure
open Go.RowKit Go.Proofs.Ytldpaoaiapedjaa.Q Go.Proofs.YtldpaoaiapedjaaW.PrintWords Go.Proofs.YtldpaoaiapedjaaW.PrintLast Go.Proofs.YtldpaoaiapedjaaW.PrintMore
/-- Each batch's row of texts has a length. -/
def shortR (l : List S42) : Prop := ∀ x ∈ l, x.f2.length ≤ 9223372036854775806
def mayB (o s : Int) (t : List ByteArray) : Bool := decide (1 ≤ o ∧ o ≤ 64 ∧ 1 ≤ s ∧ s ≤ 1073741824 ∧ 1 ≤ t.length ∧ t.length ≤ 4) && !t.any oddS
theorem any_drop (t : List ByteArray) (j : Nat) (h : j < t.length) : (t.drop j).any oddS = (oddS t[j] || (t.drop (j + 1)).any oddS) := by
  rw [List.drop_eq_getElem_cons h, List.any_cons]
theorem may_loop (o s : Int) (t : List ByteArray) (ht : t.length ≤ 9223372036854775806) (d : Nat) : ∀ j : Nat, j ≤ t.length → t.length - j = d → Ev (fun k => R07_May.l0 k (j : Int) o s t) (!(t.drop j).any oddS) := by
  induction d with
  | zero =>
    intro j hj hd
    rw [List.drop_eq_nil_of_le (by omega)]
    refine Ev.step (f := fun _ => some _) (fun k => ?_) (Ev.now _)
    rw [R07_May.l0, if_neg (by omega)]
    rfl
  | succ d ih =>
    intro j hj hd
    have h : j < t.length := by omega
    rw [any_drop t j h]
    have hih := ih (j + 1) (by omega) (by omega)
    by_cases h0 : t[j].size = 0
    · have e : oddS t[j] = true := by unfold oddS; rw [decide_eq_true h0]; rfl
      rw [e]
      refine Ev.step (f := fun _ => some _) (fun k => ?_) (Ev.now _)
      rw [R07_May.l0, if_pos (by omega), if_pos (by omega), rdS_at t j h, if_pos (by omega)]
      rfl
    · by_cases h1 : 48 < t[j].size
      · have e : oddS t[j] = true := by unfold oddS; rw [decide_eq_true h1]; simp
        rw [e]
        refine Ev.step (f := fun _ => some _) (fun k => ?_) (Ev.now _)
        rw [R07_May.l0, if_pos (by omega), if_pos (by omega), rdS_at t j h, if_neg (by omega), if_pos (by omega)]
        rfl
      · have e : oddS t[j] = false := by unfold oddS; rw [decide_eq_false h0, decide_eq_false h1]; rfl
        rw [e, Bool.false_or]
        refine Ev.step (fun k => ?_) hih
        rw [R07_May.l0, if_pos (by omega), if_pos (by omega), rdS_at t j h, if_neg (by omega), if_neg (by omega), wrap_small (by omega) (by omega)]
        rfl
theorem may_j (o s : Int) (t : List ByteArray) (b : Bool) (ht : t.length ≤ 9223372036854775806) : Ev (fun k => R07_May.j0 k b o s t) (!b && !t.any oddS) := by
  cases b with
  | true =>
    refine Ev.step (f := fun _ => some _) (fun k => ?_) (Ev.now _)
    rw [R07_May.j0, if_pos rfl]; rfl
  | false =>
    have := may_loop o s t ht t.length 0 (Nat.zero_le _) (by omega)
    refine Ev.step (fun k => ?_) this
    rw [R07_May.j0, if_neg (by decide)]; rfl
theorem refMay_ev (o s : Int) (t : List ByteArray) (ht : t.length ≤ 9223372036854775806) : Ev (fun k => R07_May.f k o s t) (mayB o s t) := by
  unfold R07_May.f mayB
  have no : ∀ P : Prop, [Decidable P] → ¬ P → Ev (fun k => R07_May.j0 k true o s t) (decide P && !t.any oddS) := fun P _ hP => by
    have := may_j o s t true ht
    rw [decide_eq_false hP]
    exact this
  by_cases h1 : o < 1
  · simp only [if_pos h1]; exact no _ (by omega)
  · by_cases h2 : o > 64
    · simp only [if_neg h1, if_pos h2]; exact no _ (by omega)
    · by_cases h3 : s < 1
      · simp only [if_neg h1, if_neg h2, if_pos h3]; exact no _ (by omega)
      · by_cases h4 : s > 1073741824
        · simp only [if_neg h1, if_neg h2, if_neg h3, if_pos h4]; exact no _ (by omega)
        · by_cases h5 : (t.length : Int) < 1
          · simp only [if_neg h1, if_neg h2, if_neg h3, if_neg h4, if_pos h5]; exact no _ (by omega)
          · simp only [if_neg h1, if_neg h2, if_neg h3, if_neg h4, if_neg h5]
            have := may_j o s t (decide ((t.length : Int) > 4)) ht
            have e : (!decide ((t.length : Int) > 4)) = decide (1 ≤ o ∧ o ≤ 64 ∧ 1 ≤ s ∧ s ≤ 1073741824 ∧ 1 ≤ t.length ∧ t.length ≤ 4) := by
              rw [Bool.eq_iff_iff, Bool.not_eq_true', decide_eq_false_iff_not, decide_eq_true_iff]; omega
            rw [e] at this
            exact this
/-- The batch at place j is as it should be. -/
def okB (a n : Int) (op : List S42) (j : Nat) : Bool :=
  mayB (rd_T42 op (j : Int)).f0 (rd_T42 op (j : Int)).f1 (rd_T42 op (j : Int)).f2 && (decide ((rd_T42 op (j : Int)).f0 = a) && (decide ((rd_T42 op (j : Int)).f1 < n) && (decide (wrap64 (n - 8) ≤ (rd_T42 op (j : Int)).f1) && (decide (j = 0) || decide ((rd_T42 op ((j - 1 : Nat) : Int)).f1 < (rd_T42 op (j : Int)).f1)))))
def openD (a n : Int) (op : List S42) : Nat → Nat → Bool
  | 0, _ => true
  | d + 1, j => okB a n op j && openD a n op d (j + 1)
def rightD (a n : Int) (p : List ByteArray) (op : List S42) : Bool :=
  (decide (1 ≤ a ∧ a ≤ 64 ∧ 1 ≤ n ∧ n ≤ 1073741825 ∧ p.length ≤ 4) && !p.any oddS) && (!(decide (p.length = 4) && leftD n op) && openD a n op op.length 0)
theorem right_l1 (a n : Int) (p : List ByteArray) (op : List S42) (hl : op.length ≤ 9223372036854775806) (hs : shortR op) (d : Nat) : ∀ j : Nat, j ≤ op.length → op.length - j = d → Ev (fun k => R16_Right.l1 k (j : Int) a n p op) (openD a n op d j) := by
  induction d with
  | zero =>
    intro j hj hd
    refine Ev.step (f := fun _ => some _) (fun k => ?_) (Ev.now _)
    rw [R16_Right.l1, if_neg (by omega)]
    rfl
  | succ d ih =>
    intro j hj hd
    have h : j < op.length := by omega
    have hih := ih (j + 1) (by omega) (by omega)
    rw [openD]
    have hmem : rd_T42 op (j : Int) ∈ op := by rw [rd_at42 op j h]; exact List.getElem_mem h
    obtain ⟨x, hx⟩ : ∃ x, x = rd_T42 op (j : Int) := ⟨_, rfl⟩
    have hw : wrap64 ((j : Int) + 1) = ((j + 1 : Nat) : Int) := by rw [wrap_small (by omega) (by omega)]; rfl
    have hok : okB a n op j = (mayB x.f0 x.f1 x.f2 && (decide (x.f0 = a) && (decide (x.f1 < n) && (decide (wrap64 (n - 8) ≤ x.f1) && (decide (j = 0) || decide ((rd_T42 op ((j - 1 : Nat) : Int)).f1 < x.f1)))))) := by rw [hx]; rfl
    refine Ev.step (f := fun k => (R07_May.f k x.f0 x.f1 x.f2).bind fun t112 => (if t112 = true then (if x.f0 = a then (if x.f1 ≥ n then (some false) else (if x.f1 < (wrap64 (n - 8)) then (some false) else (if (j : Int) > 0 then (if 0 ≤ (wrap64 ((j : Int) - 1)) then (if (wrap64 ((j : Int) - 1)) < (op.length : Int) then (if ((rd_T42 op (wrap64 ((j : Int) - 1))).f1) ≥ x.f1 then (some false) else (R16_Right.l1 k (((j + 1 : Nat)) : Int) a n p op)) else (none)) else (none)) else (R16_Right.l1 k (((j + 1 : Nat)) : Int) a n p op)))) else (some false)) else (some false))) (fun k => ?_) ?_
    · rw [R16_Right.l1, if_pos (by omega), if_pos (by omega), hw, ← hx]
    · refine Ev.bind (refMay_ev _ _ _ (hs x (hx ▸ hmem))) ?_
      rw [hok]
      cases hm : mayB x.f0 x.f1 x.f2 with
      | false => simp only [if_neg (show ¬ (false = true) by decide), Bool.false_and]; exact Ev.now _
      | true =>
        simp only [if_true, Bool.true_and]
        by_cases h0 : x.f0 = a
        · simp only [if_pos h0, decide_eq_true h0, Bool.true_and]
          by_cases h1 : x.f1 ≥ n
          · simp only [if_pos h1, decide_eq_false (show ¬ x.f1 < n by omega), Bool.false_and]; exact Ev.now _
          · simp only [if_neg h1, decide_eq_true (show x.f1 < n by omega), Bool.true_and]
            by_cases h2 : x.f1 < wrap64 (n - 8)
            · simp only [if_pos h2, decide_eq_false (show ¬ wrap64 (n - 8) ≤ x.f1 by omega), Bool.false_and]; exact Ev.now _
            · simp only [if_neg h2, decide_eq_true (show wrap64 (n - 8) ≤ x.f1 by omega), Bool.true_and]
              by_cases hj0 : j = 0
              · simp only [if_neg (show ¬ ((j : Int) > 0) by omega), decide_eq_true hj0, Bool.true_or, Bool.true_and]
                exact hih
              · have e1 : wrap64 ((j : Int) - 1) = ((j - 1 : Nat) : Int) := by rw [wrap_small (by omega) (by omega)]; omega
                simp only [if_pos (show (j : Int) > 0 by omega), decide_eq_false hj0, Bool.false_or, e1, if_pos (show (0 : Int) ≤ ((j - 1 : Nat) : Int) by omega), if_pos (show ((j - 1 : Nat) : Int) < (op.length : Int) by omega)]
                by_cases h3 : (rd_T42 op ((j - 1 : Nat) : Int)).f1 ≥ x.f1
                · simp only [if_pos h3, decide_eq_false (show ¬ (rd_T42 op ((j - 1 : Nat) : Int)).f1 < x.f1 by omega), Bool.false_and]; exact Ev.now _
                · simp only [if_neg h3, decide_eq_true (show (rd_T42 op ((j - 1 : Nat) : Int)).f1 < x.f1 by omega), Bool.true_and]; exact hih
        · simp only [if_neg h0, decide_eq_false h0, Bool.false_and]; exact Ev.now _
theorem right_j2 (a n : Int) (p : List ByteArray) (op : List S42) (b : Bool) (hl : op.length ≤ 9223372036854775806) (hs : shortR op) : Ev (fun k => R16_Right.j2 k b a n p op) (!b && openD a n op op.length 0) := by
  cases b with
  | true =>
    refine Ev.step (f := fun _ => some _) (fun k => ?_) (Ev.now _)
    rw [R16_Right.j2, if_pos rfl]; rfl
  | false =>
    refine Ev.step (fun k => ?_) (right_l1 a n p op hl hs op.length 0 (Nat.zero_le _) (by omega))
    rw [R16_Right.j2, if_neg (by decide)]; rfl
theorem right_l0 (a n : Int) (p : List ByteArray) (op : List S42) (hp : p.length ≤ 9223372036854775806) (hl : op.length ≤ 9223372036854775806) (hs : shortR op) (d : Nat) : ∀ j : Nat, j ≤ p.length → p.length - j = d → Ev (fun k => R16_Right.l0 k (j : Int) a n p op) (!(p.drop j).any oddS && (!(decide (p.length = 4) && leftD n op) && openD a n op op.length 0)) := by
  induction d with
  | zero =>
    intro j hj hd
    rw [List.drop_eq_nil_of_le (by omega)]
    have := right_j2 a n p op (decide (p.length = 4) && leftD n op) hl hs
    refine Ev.step (fun k => ?_) this
    rw [R16_Right.l0, if_neg (by omega), refLeft_is]
    simp only [Option.bind_some]
    by_cases h4 : p.length = 4
    · rw [if_pos (by omega), decide_eq_true h4, Bool.true_and]
    · rw [if_neg (by omega), decide_eq_false h4, Bool.false_and]
  | succ d ih =>
    intro j hj hd
    have h : j < p.length := by omega
    rw [any_drop p j h]
    have hih := ih (j + 1) (by omega) (by omega)
    by_cases h0 : p[j].size = 0
    · have e : oddS p[j] = true := by unfold oddS; rw [decide_eq_true h0]; rfl
      rw [e]
      refine Ev.step (f := fun _ => some _) (fun k => ?_) (Ev.now _)
      rw [R16_Right.l0, if_pos (by omega), if_pos (by omega), rdS_at p j h, if_pos (by omega)]
      rfl
    · by_cases h1 : 48 < p[j].size
      · have e : oddS p[j] = true := by unfold oddS; rw [decide_eq_true h1]; simp
        rw [e]
        refine Ev.step (f := fun _ => some _) (fun k => ?_) (Ev.now _)
        rw [R16_Right.l0, if_pos (by omega), if_pos (by omega), rdS_at p j h, if_neg (by omega), if_pos (by omega)]
        rfl
      · have e : oddS p[j] = false := by unfold oddS; rw [decide_eq_false h0, decide_eq_false h1]; rfl
        rw [e, Bool.false_or]
        refine Ev.step (fun k => ?_) hih
        rw [R16_Right.l0, if_pos (by omega), if_pos (by omega), rdS_at p j h, if_neg (by omega), if_neg (by omega), wrap_small (by omega) (by omega)]
        rfl
theorem right_j0 (a n : Int) (p : List ByteArray) (op : List S42) (b : Bool) (hp : p.length ≤ 9223372036854775806) (hl : op.length ≤ 9223372036854775806) (hs : shortR op) : Ev (fun k => R16_Right.j0 k b a n p op) ((!b && !p.any oddS) && (!(decide (p.length = 4) && leftD n op) && openD a n op op.length 0)) := by
  cases b with
  | true =>
    refine Ev.step (f := fun _ => some _) (fun k => ?_) (Ev.now _)
    rw [R16_Right.j0, if_pos rfl]; rfl
  | false =>
    refine Ev.step (fun k => ?_) (right_l0 a n p op hp hl hs p.length 0 (Nat.zero_le _) (by omega))
    rw [R16_Right.j0, if_neg (by decide)]; rfl
theorem refRight_ev (a n : Int) (p : List ByteArray) (op : List S42) (hp : p.length ≤ 9223372036854775806) (hl : op.length ≤ 9223372036854775806) (hs : shortR op) : Ev (fun k => R16_Right.f k a n p op) (rightD a n p op) := by
  unfold R16_Right.f rightD
  have no : ∀ P : Prop, [Decidable P] → ¬ P → Ev (fun k => R16_Right.j0 k true a n p op) ((decide P && !p.any oddS) && (!(decide (p.length = 4) && leftD n op) && openD a n op op.length 0)) := fun P _ hP => by
    have := right_j0 a n p op true hp hl hs
    rw [decide_eq_false hP]
    exact this
  by_cases h1 : a < 1
  · simp only [if_pos h1]; exact no _ (by omega)
  · by_cases h2 : a > 64
    · simp only [if_neg h1, if_pos h2]; exact no _ (by omega)
    · by_cases h3 : n < 1
      · simp only [if_neg h1, if_neg h2, if_pos h3]; exact no _ (by omega)
      · by_cases h4 : n > 1073741825
        · simp only [if_neg h1, if_neg h2, if_neg h3, if_pos h4]; exact no _ (by omega)
        · simp only [if_neg h1, if_neg h2, if_neg h3, if_neg h4]
          have := right_j0 a n p op (decide ((p.length : Int) > 4)) hp hl hs
          have e : (!decide ((p.length : Int) > 4)) = decide (1 ≤ a ∧ a ≤ 64 ∧ 1 ≤ n ∧ n ≤ 1073741825 ∧ p.length ≤ 4) := by
            rw [Bool.eq_iff_iff, Bool.not_eq_true', decide_eq_false_iff_not, decide_eq_true_iff]; omega
          rw [e] at this
          exact this
end Go.Proofs.Ytldpaoaiapedjaa.Pure
