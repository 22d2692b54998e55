/- LaneTells: what the law comes to is true at every origin and every two lanes. Conditions: lengths below what memory holds. -/
import Derived.Test.YtldpaoaiapedjaaPureX
import Derived.Test.YtldpaoaiapedjaaPureR
import Derived.Test.YtldpaoaiapedjaaPureE
import Derived.Test.YtldpaoaiapedjaaQ19
namespace Go.Proofs.Ytldpaoaiapedjaa.Pure
open Go.RowKit Go.Proofs.Ytldpaoaiapedjaa.Q Go.Proofs.YtldpaoaiapedjaaW.PrintWords Go.Proofs.YtldpaoaiapedjaaW.PrintLast Go.Proofs.YtldpaoaiapedjaaW.PrintMore
theorem bMay_j1 (o s : Int) (t : List ByteArray) (b : Bool) : Ev (fun k => batch_May.j1 k b o s t) (!b && (decide (1 ≤ t.length ∧ t.length ≤ 4) && !t.any oddS)) := by
  cases b with
  | true =>
    refine Ev.step (f := fun _ => some _) (fun k => ?_) (Ev.now _)
    rw [batch_May.j1, if_pos rfl]; rfl
  | false =>
    by_cases h1 : (t.length : Int) < 1
    · rw [decide_eq_false (by omega)]
      refine Ev.step (f := fun _ => some _) (fun k => ?_) (Ev.now _)
      rw [batch_May.j1, if_neg (by decide), if_pos h1]; rfl
    · by_cases h2 : (t.length : Int) > 4
      · rw [decide_eq_false (by omega)]
        refine Ev.step (f := fun _ => some _) (fun k => ?_) (Ev.now _)
        rw [batch_May.j1, if_neg (by decide), if_neg h1, if_pos h2]; rfl
      · rw [decide_eq_true (by omega)]
        refine Ev.step (f := fun _ => some _) (fun k => ?_) (Ev.now _)
        rw [batch_May.j1, if_neg (by decide), if_neg h1, if_neg h2]; rfl
theorem bMay_j0 (o s : Int) (t : List ByteArray) (b : Bool) : Ev (fun k => batch_May.j0 k b o s t) (!b && (decide (1 ≤ s ∧ s ≤ 1073741824) && (decide (1 ≤ t.length ∧ t.length ≤ 4) && !t.any oddS))) := by
  cases b with
  | true =>
    refine Ev.step (f := fun _ => some _) (fun k => ?_) (Ev.now _)
    rw [batch_May.j0, if_pos rfl]; rfl
  | false =>
    by_cases h1 : s < 1
    · rw [decide_eq_false (by omega)]
      have := bMay_j1 o s t true
      refine Ev.step (fun k => ?_) this
      rw [batch_May.j0, if_neg (by decide), if_pos h1]
    · have := bMay_j1 o s t (decide (s > 1073741824))
      rw [show (!decide (s > 1073741824)) = decide (1 ≤ s ∧ s ≤ 1073741824) by rw [Bool.eq_iff_iff, Bool.not_eq_true', decide_eq_false_iff_not, decide_eq_true_iff]; omega] at this
      refine Ev.step (fun k => ?_) this
      rw [batch_May.j0, if_neg (by decide), if_neg h1]
theorem may_parts (o s : Int) (t : List ByteArray) : mayB o s t = (decide (1 ≤ o ∧ o ≤ 64) && (decide (1 ≤ s ∧ s ≤ 1073741824) && (decide (1 ≤ t.length ∧ t.length ≤ 4) && !t.any oddS))) := by
  unfold mayB
  cases t.any oddS
  · rw [Bool.eq_iff_iff]
    simp only [Bool.not_false, Bool.and_true, Bool.and_eq_true, decide_eq_true_iff]
    omega
  · simp
theorem bMay_ev (o s : Int) (t : List ByteArray) : Ev (fun k => batch_May.f k o s t) (mayB o s t) := by
  unfold batch_May.f
  rw [may_parts]
  by_cases h1 : o < 1
  · simp only [if_pos h1]
    rw [decide_eq_false (by omega)]
    exact bMay_j0 o s t true
  · simp only [if_neg h1]
    have := bMay_j0 o s t (decide (o > 64))
    rw [show (!decide (o > 64)) = decide (1 ≤ o ∧ o ≤ 64) by rw [Bool.eq_iff_iff, Bool.not_eq_true', decide_eq_false_iff_not, decide_eq_true_iff]; omega] at this
    exact this
theorem lright_l0 (a n : Int) (p : List ByteArray) (op : List S42) (hl : op.length ≤ 9223372036854775806) (d : Nat) : ∀ j : Nat, j ≤ op.length → op.length - j = d → Ev (fun k => lane_Right.l0 k op (op.length : Int) (j : Int) a n p op) (openD a n op d j) := by
  induction d with
  | zero =>
    intro j hj hd
    refine Ev.step (f := fun _ => some _) (fun k => ?_) (Ev.now _)
    rw [lane_Right.l0, if_neg (by omega)]
    rfl
  | succ d ih =>
    intro j hj hd
    have h : j < op.length := by omega
    have hih := ih (j + 1) (by omega) (by omega)
    rw [openD]
    obtain ⟨x, hx⟩ : ∃ x, x = rd_T42 op (j : Int) := ⟨_, rfl⟩
    have hw : wrap64 ((j : Int) + 1) = ((j + 1 : Nat) : Int) := by rw [wrap_small (by omega) (by omega)]; rfl
    have hok : okB a n op j = (mayB x.f0 x.f1 x.f2 && (decide (x.f0 = a) && (decide (x.f1 < n) && (decide (wrap64 (n - 8) ≤ x.f1) && (decide (j = 0) || decide ((rd_T42 op ((j - 1 : Nat) : Int)).f1 < x.f1)))))) := by rw [hx]; rfl
    refine Ev.step (f := fun k => (batch_May.f k x.f0 x.f1 x.f2).bind fun t112 => (if t112 = true then (if x.f0 = a then (if x.f1 ≥ n then (some false) else (if x.f1 < (wrap64 (n - 8)) then (some false) else (if (j : Int) > 0 then (if 0 ≤ (wrap64 ((j : Int) - 1)) then (if (wrap64 ((j : Int) - 1)) < (op.length : Int) then (if ((rd_T42 op (wrap64 ((j : Int) - 1))).f1) ≥ x.f1 then (some false) else (lane_Right.l0 k op (op.length : Int) (((j + 1 : Nat)) : Int) a n p op)) else (none)) else (none)) else (lane_Right.l0 k op (op.length : Int) (((j + 1 : Nat)) : Int) a n p op)))) else (some false)) else (some false))) (fun k => ?_) ?_
    · rw [lane_Right.l0, if_pos (by omega), if_pos (by omega), if_pos (by omega), hw, ← hx]
    · refine Ev.bind (bMay_ev _ _ _) ?_
      rw [hok]
      cases hm : mayB x.f0 x.f1 x.f2 with
      | false => simp only [if_neg (show ¬ (false = true) by decide), Bool.false_and]; exact Ev.now _
      | true =>
        simp only [if_true, Bool.true_and]
        by_cases h0 : x.f0 = a
        · simp only [if_pos h0, decide_eq_true h0, Bool.true_and]
          by_cases h1 : x.f1 ≥ n
          · simp only [if_pos h1, decide_eq_false (show ¬ x.f1 < n by omega), Bool.false_and]; exact Ev.now _
          · simp only [if_neg h1, decide_eq_true (show x.f1 < n by omega), Bool.true_and]
            by_cases h2 : x.f1 < wrap64 (n - 8)
            · simp only [if_pos h2, decide_eq_false (show ¬ wrap64 (n - 8) ≤ x.f1 by omega), Bool.false_and]; exact Ev.now _
            · simp only [if_neg h2, decide_eq_true (show wrap64 (n - 8) ≤ x.f1 by omega), Bool.true_and]
              by_cases hj0 : j = 0
              · simp only [if_neg (show ¬ ((j : Int) > 0) by omega), decide_eq_true hj0, Bool.true_or, Bool.true_and]
                exact hih
              · have e1 : wrap64 ((j : Int) - 1) = ((j - 1 : Nat) : Int) := by rw [wrap_small (by omega) (by omega)]; omega
                simp only [if_pos (show (j : Int) > 0 by omega), decide_eq_false hj0, Bool.false_or, e1, if_pos (show (0 : Int) ≤ ((j - 1 : Nat) : Int) by omega), if_pos (show ((j - 1 : Nat) : Int) < (op.length : Int) by omega)]
                by_cases h3 : (rd_T42 op ((j - 1 : Nat) : Int)).f1 ≥ x.f1
                · simp only [if_pos h3, decide_eq_false (show ¬ (rd_T42 op ((j - 1 : Nat) : Int)).f1 < x.f1 by omega), Bool.false_and]; exact Ev.now _
                · simp only [if_neg h3, decide_eq_true (show (rd_T42 op ((j - 1 : Nat) : Int)).f1 < x.f1 by omega), Bool.true_and]; exact hih
        · simp only [if_neg h0, decide_eq_false h0, Bool.false_and]; exact Ev.now _
theorem lright_j0 (a n : Int) (p : List ByteArray) (op : List S42) (b : Bool) (hl : op.length ≤ 9223372036854775806) : Ev (fun k => lane_Right.j0 k b a n p op) (!b && openD a n op op.length 0) := by
  cases b with
  | true =>
    refine Ev.step (f := fun _ => some _) (fun k => ?_) (Ev.now _)
    rw [lane_Right.j0, if_pos rfl]; rfl
  | false =>
    refine Ev.step (fun k => ?_) (lright_l0 a n p op hl op.length 0 (Nat.zero_le _) (by omega))
    rw [lane_Right.j0, if_neg (by decide)]; rfl
theorem lright_ev (a n : Int) (p : List ByteArray) (op : List S42) (hl : op.length ≤ 9223372036854775806) : Ev (fun k => lane_Right.f k a n p op) (rightD a n p op) := by
  unfold lane_Right.f rightD
  have no : ∀ (X Y : Bool), (X && Y) = false → Ev (fun k => lane_Right.j0 k true a n p op) ((X && Y) && (!(decide (p.length = 4) && leftD n op) && openD a n op op.length 0)) := fun X Y h => by
    have := lright_j0 a n p op true hl
    rw [h]
    exact this
  by_cases h1 : a < 1
  · simp only [if_pos h1]; exact no _ _ (by rw [decide_eq_false (by omega)]; rfl)
  · by_cases h2 : a > 64
    · simp only [if_neg h1, if_pos h2]; exact no _ _ (by rw [decide_eq_false (by omega)]; rfl)
    · by_cases h3 : n < 1
      · simp only [if_neg h1, if_neg h2, if_pos h3]; exact no _ _ (by rw [decide_eq_false (by omega)]; rfl)
      · by_cases h4 : n > 1073741825
        · simp only [if_neg h1, if_neg h2, if_neg h3, if_pos h4]; exact no _ _ (by rw [decide_eq_false (by omega)]; rfl)
        · by_cases h5 : (p.length : Int) > 4
          · simp only [if_neg h1, if_neg h2, if_neg h3, if_neg h4, if_pos h5]; exact no _ _ (by rw [decide_eq_false (by omega)]; rfl)
          · simp only [if_neg h1, if_neg h2, if_neg h3, if_neg h4, if_neg h5]
            unfold contS.f
            simp only [Option.bind_some]
            cases ho : p.any oddS with
            | true => simp only [if_true]; exact no _ _ (by simp)
            | false =>
              simp only [if_neg (show ¬ (false = true) by decide)]
              rw [decide_eq_true (show 1 ≤ a ∧ a ≤ 64 ∧ 1 ≤ n ∧ n ≤ 1073741825 ∧ p.length ≤ 4 by omega)]
              by_cases h6 : p.length = 4
              · simp only [if_pos (show (p.length : Int) = 4 by omega), left_is, Option.bind_some]
                rw [decide_eq_true h6]
                have := lright_j0 a n p op (leftD n op) hl
                simpa using this
              · simp only [if_neg (show ¬ (p.length : Int) = 4 by omega)]
                rw [decide_eq_false h6]
                have := lright_j0 a n p op false hl
                simpa using this
theorem new_is (o : Int) : ∃ a n e, lane_New.f o = some (a, n, [], [], e) ∧ R16_New.f o = some (a, n, [], [], e) := by
  unfold lane_New.f R16_New.f
  by_cases h1 : o < 1
  · simp only [if_pos h1]; exact ⟨_, _, _, rfl, rfl⟩
  · simp only [if_neg h1]
    by_cases h2 : o > 64
    · simp only [if_pos h2]; exact ⟨_, _, _, rfl, rfl⟩
    · simp only [if_neg h2]; exact ⟨_, _, _, rfl, rfl⟩
theorem tells_j (o : Int) (x : Bool) (a n : Int) (p : List ByteArray) (op : List S42) (b m : Int) (q : List ByteArray) (oq : List S42) (hp : p.length ≤ 9223372036854775806) (hl : op.length ≤ 9223372036854775806) (hs : short op) : Ev (fun k => L16_LaneTells.j0 k o true x a n p op b m q oq) true := by
  cases x with
  | true =>
    refine Ev.step (f := fun _ => some _) (fun k => ?_) (Ev.now _)
    rw [L16_LaneTells.j0, if_pos rfl]
  | false =>
    obtain ⟨a', n', e', h1, h2⟩ := new_is o
    have hsE : shortE op := hs
    have hsR : shortR op := hs
    have hsame := laneSame_says a n p op b m q oq hp hl hsE
    refine Ev.step (f := fun k => (R16_Same.f k a' n' [] [] a' n' [] []).bind fun t430 => (if t430 = true then ((lane_Right.f k a n p op).bind fun t431 => ((R16_Right.f k a n p op).bind fun t432 => (if (t431 == t432) = true then ((lane_Same.f k a n p op b m q oq).bind fun t435 => ((R16_Same.f k a n p op b m q oq).bind fun t436 => (if (t435 == t436) = true then ((lane_Same.f k a n p op a n p op).bind fun t437 => (some t437)) else (some false)))) else (some false)))) else (some false))) (fun k => ?_) ?_
    · rw [L16_LaneTells.j0, if_neg (by decide), h1]
      simp only [Option.bind_some]
      rw [h2]
      simp only [Option.bind_some, if_true]
      unfold lane_Full.f R16_Full.f
      simp only [Option.bind_some, beq_self_eq_true, if_true]
    · refine Ev.bind (refSame16_self a' n' [] [] (by simp) (by simp) (fun x hx => by cases hx)) ?_
      simp only [if_true]
      refine Ev.bind (lright_ev a n p op hl) ?_
      refine Ev.bind (refRight_ev a n p op hp hl hsR) ?_
      simp only [beq_self_eq_true, if_true]
      have hself := laneSame_self a n p op hp hl hsE
      by_cases hP : a = b ∧ n = m ∧ p = q ∧ op = oq
      · refine Ev.bind (hsame.1 hP) ?_
        have h16 := refSame16_ev a n p op b m q oq hp hl hs
        rw [decide_eq_true hP] at h16
        refine Ev.bind h16 ?_
        simp only [beq_self_eq_true, if_true]
        refine Ev.bind hself ?_
        exact Ev.now _
      · refine Ev.bind (hsame.2 hP) ?_
        have h16 := refSame16_ev a n p op b m q oq hp hl hs
        rw [decide_eq_false hP] at h16
        refine Ev.bind h16 ?_
        simp only [beq_self_eq_true, if_true]
        refine Ev.bind hself ?_
        exact Ev.now _
theorem LaneTells (o a n : Int) (p : List ByteArray) (op : List S42) (b m : Int) (q : List ByteArray) (oq : List S42) (hp : p.length ≤ 9223372036854775806) (hl : op.length ≤ 9223372036854775806) (hs : short op) : ∃ k, L16_LaneTells.f k o a n p op b m q oq = some true := by
  refine Ev.rounds (g := fun k => L16_LaneTells.f k o a n p op b m q oq) ?_
  unfold L16_LaneTells.f L16_shown.f
  simp only [Option.bind_some]
  by_cases h1 : n > 1099511627776
  · simp only [if_pos h1]; exact tells_j o true a n p op b m q oq hp hl hs
  · simp only [if_neg h1]; exact tells_j o _ a n p op b m q oq hp hl hs
end Go.Proofs.Ytldpaoaiapedjaa.Pure
