/- What the functions of the votes come to, in closed form: find, give, floor, right, same. Conditions: lengths below 4398046511000. -/
import Derived.Test.YtlaagbadhkpjgaaQ5
import Derived.Test.YtlaagbadhkpjgaaQ4
import Derived.Test.YtlaagbadhkpjgaaQ3
namespace Go.Proofs.Ytlaagbadhkpjgaa.Pure
open Go.RowKit Go.Proofs.Ytlaagbadhkpjgaa.Q Go.Proofs.YtlaagbadhkpjgaaW.PrintWords Go.Proofs.YtlaagbadhkpjgaaW.PrintLast Go.Proofs.YtlaagbadhkpjgaaW.PrintMore

theorem i64_bd {a : Int} (h : (Lit.int .i64 a).wf = true) : -9223372036854775808 ≤ a ∧ a < 9223372036854775808 := by
  simp [Lit.wf, IntKind.min, IntKind.max, IntKind.signed, IntKind.bits] at h; omega
theorem wrap_small {a : Int} (h0 : -9223372036854775808 ≤ a) (h1 : a < 9223372036854775808) : wrap64 a = a := by unfold wrap64; omega
theorem S29_ext {x y : S29} (h0 : x.f0 = y.f0) (h1 : x.f1 = y.f1) (h2 : x.f2.toList = y.f2.toList) : x = y := by
  cases x; cases y
  simp only at h0 h1 h2
  subst h0 h1
  congr 1
  rw [ByteArray.toList_eq, ByteArray.toList_eq] at h2
  apply ByteArray.ext
  exact Array.toList_inj.1 h2
theorem rd_mem (l : List S29) (j : Nat) (h : j < l.length) : rd_T29 l (j : Int) ∈ l := by rw [rd_at l j h]; exact List.getElem_mem h

/-! ### find -/
theorem find_loop' (a r : Int) (l : List S29) (hl : l.length ≤ 9223372036854775806) (d : Nat) : ∀ j : Nat, j ≤ l.length → l.length - j = d →
    Ev (fun k => vote_Find.l0 k a r l (l.length : Int) (j : Int)) (findV (l.drop j) a r) := by
  induction d with
  | zero =>
    intro j hj hd
    refine Ev.step (f := fun _ => some _) (fun k => ?_) (Ev.now _)
    rw [vote_Find.l0, if_neg (by omega), List.drop_eq_nil_of_le (by omega)]
    rfl
  | succ d ih =>
    intro j hj hd
    have hlt : j < l.length := by omega
    have hih := ih (j + 1) (by omega) (by omega)
    rw [List.drop_eq_getElem_cons hlt]
    have st : ∀ b, atV a r l[j] = b → findV (l[j] :: l.drop (j + 1)) a r = if b = true then (l[j].f2, true) else findV (l.drop (j + 1)) a r := fun b hb => by
      unfold findV
      rw [List.find?_cons, hb]
      cases b <;> rfl
    by_cases h1 : l[j].f0 = a
    · by_cases h2 : l[j].f1 = r
      · rw [st true (by unfold atV; rw [h1, h2]; simp), if_pos rfl]
        refine Ev.step (f := fun _ => some _) (fun k => ?_) (Ev.now _)
        rw [vote_Find.l0, if_pos (by omega), if_pos (by omega), if_pos (by omega), rd_at l j hlt, if_pos h1, if_pos h2]
      · rw [st false (by unfold atV; simp [h2]), if_neg (by decide)]
        refine Ev.step (fun k => ?_) hih
        rw [vote_Find.l0, if_pos (by omega), if_pos (by omega), if_pos (by omega), rd_at l j hlt, if_pos h1, if_neg h2, wrap_small (by omega) (by omega)]
        rfl
    · rw [st false (by unfold atV; simp [h1]), if_neg (by decide)]
      refine Ev.step (fun k => ?_) hih
      rw [vote_Find.l0, if_pos (by omega), if_pos (by omega), if_pos (by omega), rd_at l j hlt, if_neg h1, wrap_small (by omega) (by omega)]
      rfl
theorem find_ev (a r : Int) (l : List S29) (hl : l.length ≤ 9223372036854775806) : Ev (fun k => vote_Find.f k l a r) (findV l a r) := by
  have := find_loop' a r l hl l.length 0 (Nat.zero_le _) (by omega)
  exact this
theorem refFind_loop (a r : Int) (l : List S29) (hl : l.length ≤ 9223372036854775806) (d : Nat) : ∀ j : Nat, j ≤ l.length → l.length - j = d →
    Ev (fun k => selvedgeref09_Find.l0 k l a r (j : Int)) (findV (l.drop j) a r) := by
  induction d with
  | zero =>
    intro j hj hd
    refine Ev.step (f := fun _ => some _) (fun k => ?_) (Ev.now _)
    rw [selvedgeref09_Find.l0, if_neg (by omega), List.drop_eq_nil_of_le (by omega)]
    rfl
  | succ d ih =>
    intro j hj hd
    have hlt : j < l.length := by omega
    have hih := ih (j + 1) (by omega) (by omega)
    rw [List.drop_eq_getElem_cons hlt]
    have st : ∀ b, atV a r l[j] = b → findV (l[j] :: l.drop (j + 1)) a r = if b = true then (l[j].f2, true) else findV (l.drop (j + 1)) a r := fun b hb => by
      unfold findV
      rw [List.find?_cons, hb]
      cases b <;> rfl
    by_cases h1 : l[j].f0 = a
    · by_cases h2 : l[j].f1 = r
      · rw [st true (by unfold atV; rw [h1, h2]; simp), if_pos rfl]
        refine Ev.step (f := fun _ => some _) (fun k => ?_) (Ev.now _)
        rw [selvedgeref09_Find.l0, if_pos (by omega), if_pos (by omega), rd_at l j hlt, if_pos h1, if_pos h2]
      · rw [st false (by unfold atV; simp [h2]), if_neg (by decide)]
        refine Ev.step (fun k => ?_) hih
        rw [selvedgeref09_Find.l0, if_pos (by omega), if_pos (by omega), rd_at l j hlt, if_pos h1, if_neg h2, wrap_small (by omega) (by omega)]
        rfl
    · rw [st false (by unfold atV; simp [h1]), if_neg (by decide)]
      refine Ev.step (fun k => ?_) hih
      rw [selvedgeref09_Find.l0, if_pos (by omega), if_pos (by omega), rd_at l j hlt, if_neg h1, wrap_small (by omega) (by omega)]
      rfl
theorem refFind_ev (a r : Int) (l : List S29) (hl : l.length ≤ 9223372036854775806) : Ev (fun k => selvedgeref09_Find.f k l a r) (findV l a r) := by
  have := refFind_loop a r l hl l.length 0 (Nat.zero_le _) (by omega)
  exact this

/-! ### the order of ballots, right -/
def ltV (x y : S29) : Bool := aheadV x.f0 x.f1 y
theorem refMay_is (a r : Int) (b : ByteArray) : selvedgeref09_may.f a r b = some (mayV a r) := mayV_is a r b
theorem refAhead_is (a r : Int) (b : ByteArray) (x : S29) : selvedgeref09_ahead.f a r b x.f0 x.f1 x.f2 = some (aheadV a r x) := by
  unfold selvedgeref09_ahead.f aheadV
  by_cases h1 : r = x.f1
  · simp [h1]
  · simp [h1]
def okAt (l : List S29) (i : Nat) : Bool := mayV (rd_T29 l (i : Int)).f0 (rd_T29 l (i : Int)).f1 && (decide (i = 0) || ltV (rd_T29 l ((i - 1 : Nat) : Int)) (rd_T29 l (i : Int)))
def rightD (l : List S29) : Nat → Nat → Bool
  | 0, _ => true
  | d + 1, i => okAt l i && rightD l d (i + 1)
theorem right_loop (l : List S29) (hl : l.length ≤ 9223372036854775806) (d : Nat) : ∀ j : Nat, j ≤ l.length → l.length - j = d → Ev (fun k => vote_Right.l0 k l l (l.length : Int) (j : Int)) (rightD l d j) := by
  induction d with
  | zero =>
    intro j hj hd
    refine Ev.step (f := fun _ => some _) (fun k => ?_) (Ev.now _)
    rw [vote_Right.l0, if_neg (by omega)]
    rfl
  | succ d ih =>
    intro j hj hd
    have hih := ih (j + 1) (by omega) (by omega)
    rw [rightD]
    have e1 : 0 < j → wrap64 ((j : Int) - 1) = ((j - 1 : Nat) : Int) := fun _ => by rw [wrap_small (by omega) (by omega)]; omega
    cases hm : mayV (rd_T29 l (j : Int)).f0 (rd_T29 l (j : Int)).f1 with
    | true =>
      by_cases h0 : j = 0
      · have e : okAt l j = true := by unfold okAt; rw [hm, decide_eq_true h0]; rfl
        rw [e, Bool.true_and]
        refine Ev.step (fun k => ?_) hih
        rw [vote_Right.l0, if_pos (by omega), if_pos (by omega), if_pos (by omega), mayV_is, hm]
        simp only [Option.bind_some, if_true]
        rw [if_neg (by omega), wrap_small (by omega) (by omega)]
        rfl
      · cases hq : ltV (rd_T29 l ((j - 1 : Nat) : Int)) (rd_T29 l (j : Int)) with
        | true =>
          have e : okAt l j = true := by unfold okAt; rw [hm, hq]; simp
          rw [e, Bool.true_and]
          refine Ev.step (fun k => ?_) hih
          rw [vote_Right.l0, if_pos (by omega), if_pos (by omega), if_pos (by omega), mayV_is, hm]
          simp only [Option.bind_some, if_true]
          rw [if_pos (by omega), e1 (by omega), if_pos (by omega), if_pos (by omega), aheadV_is]
          simp only [Option.bind_some]
          rw [if_pos (show aheadV (rd_T29 l ((j - 1 : Nat) : Int)).f0 (rd_T29 l ((j - 1 : Nat) : Int)).f1 (rd_T29 l (j : Int)) = true from hq), wrap_small (by omega) (by omega)]
          rfl
        | false =>
          have e : okAt l j = false := by unfold okAt; rw [hm, hq, decide_eq_false h0]; rfl
          rw [e, Bool.false_and]
          refine Ev.step (f := fun _ => some _) (fun k => ?_) (Ev.now _)
          rw [vote_Right.l0, if_pos (by omega), if_pos (by omega), if_pos (by omega), mayV_is, hm]
          simp only [Option.bind_some, if_true]
          rw [if_pos (by omega), e1 (by omega), if_pos (by omega), if_pos (by omega), aheadV_is]
          simp only [Option.bind_some]
          rw [if_neg (by rw [show aheadV (rd_T29 l ((j - 1 : Nat) : Int)).f0 (rd_T29 l ((j - 1 : Nat) : Int)).f1 (rd_T29 l (j : Int)) = false from hq]; decide)]
    | false =>
      have e : okAt l j = false := by unfold okAt; rw [hm]; rfl
      rw [e, Bool.false_and]
      refine Ev.step (f := fun _ => some _) (fun k => ?_) (Ev.now _)
      rw [vote_Right.l0, if_pos (by omega), if_pos (by omega), if_pos (by omega), mayV_is, hm]
      simp only [Option.bind_some]
      rw [if_neg (by decide)]
theorem right_ev (l : List S29) (hl : l.length ≤ 9223372036854775806) : Ev (fun k => vote_Right.f k l) (rightD l l.length 0) := by
  have := right_loop l hl l.length 0 (Nat.zero_le _) (by omega)
  exact this
theorem refRight_loop (l : List S29) (hl : l.length ≤ 9223372036854775806) (d : Nat) : ∀ j : Nat, j ≤ l.length → l.length - j = d → Ev (fun k => selvedgeref09_Right.l0 k l (j : Int)) (rightD l d j) := by
  induction d with
  | zero =>
    intro j hj hd
    refine Ev.step (f := fun _ => some _) (fun k => ?_) (Ev.now _)
    rw [selvedgeref09_Right.l0, if_neg (by omega)]
    rfl
  | succ d ih =>
    intro j hj hd
    have hih := ih (j + 1) (by omega) (by omega)
    rw [rightD]
    have e1 : 0 < j → wrap64 ((j : Int) - 1) = ((j - 1 : Nat) : Int) := fun _ => by rw [wrap_small (by omega) (by omega)]; omega
    cases hm : mayV (rd_T29 l (j : Int)).f0 (rd_T29 l (j : Int)).f1 with
    | true =>
      by_cases h0 : j = 0
      · have e : okAt l j = true := by unfold okAt; rw [hm, decide_eq_true h0]; rfl
        rw [e, Bool.true_and]
        refine Ev.step (fun k => ?_) hih
        rw [selvedgeref09_Right.l0, if_pos (by omega), if_pos (by omega), refMay_is, hm]
        simp only [Option.bind_some, if_true]
        rw [if_neg (by omega), wrap_small (by omega) (by omega)]
        rfl
      · cases hq : ltV (rd_T29 l ((j - 1 : Nat) : Int)) (rd_T29 l (j : Int)) with
        | true =>
          have e : okAt l j = true := by unfold okAt; rw [hm, hq]; simp
          rw [e, Bool.true_and]
          refine Ev.step (fun k => ?_) hih
          rw [selvedgeref09_Right.l0, if_pos (by omega), if_pos (by omega), refMay_is, hm]
          simp only [Option.bind_some, if_true]
          rw [if_pos (by omega), e1 (by omega), if_pos (by omega), if_pos (by omega), refAhead_is]
          simp only [Option.bind_some]
          rw [if_pos (show aheadV (rd_T29 l ((j - 1 : Nat) : Int)).f0 (rd_T29 l ((j - 1 : Nat) : Int)).f1 (rd_T29 l (j : Int)) = true from hq), wrap_small (by omega) (by omega)]
          rfl
        | false =>
          have e : okAt l j = false := by unfold okAt; rw [hm, hq, decide_eq_false h0]; rfl
          rw [e, Bool.false_and]
          refine Ev.step (f := fun _ => some _) (fun k => ?_) (Ev.now _)
          rw [selvedgeref09_Right.l0, if_pos (by omega), if_pos (by omega), refMay_is, hm]
          simp only [Option.bind_some, if_true]
          rw [if_pos (by omega), e1 (by omega), if_pos (by omega), if_pos (by omega), refAhead_is]
          simp only [Option.bind_some]
          rw [if_neg (by rw [show aheadV (rd_T29 l ((j - 1 : Nat) : Int)).f0 (rd_T29 l ((j - 1 : Nat) : Int)).f1 (rd_T29 l (j : Int)) = false from hq]; decide)]
    | false =>
      have e : okAt l j = false := by unfold okAt; rw [hm]; rfl
      rw [e, Bool.false_and]
      refine Ev.step (f := fun _ => some _) (fun k => ?_) (Ev.now _)
      rw [selvedgeref09_Right.l0, if_pos (by omega), if_pos (by omega), refMay_is, hm]
      simp only [Option.bind_some]
      rw [if_neg (by decide)]
theorem refRight_ev (l : List S29) (hl : l.length ≤ 9223372036854775806) : Ev (fun k => selvedgeref09_Right.f k l) (rightD l l.length 0) := by
  have := refRight_loop l hl l.length 0 (Nat.zero_le _) (by omega)
  exact this
theorem same_loop (l : List S29) (hl : l.length ≤ 9223372036854775806) (d : Nat) : ∀ j : Nat, j ≤ l.length → l.length - j = d → Ev (fun k => selvedgeref09_Same.l0 k l l (j : Int)) true := by
  induction d with
  | zero =>
    intro j hj hd
    refine Ev.step (f := fun _ => some _) (fun k => ?_) (Ev.now _)
    rw [selvedgeref09_Same.l0, if_neg (by omega)]
  | succ d ih =>
    intro j hj hd
    refine Ev.step (fun k => ?_) (ih (j + 1) (by omega) (by omega))
    rw [selvedgeref09_Same.l0, if_pos (by omega), if_pos (by omega), if_pos (by omega), if_neg (by simp), wrap_small (by omega) (by omega)]
    rfl
theorem same_ev (l : List S29) (hl : l.length ≤ 9223372036854775806) : Ev (fun k => selvedgeref09_Same.f k l l) true := by
  unfold selvedgeref09_Same.f
  simp only [if_true]
  exact same_loop l hl l.length 0 (Nat.zero_le _) (by omega)
/-! ### Give, Floor -/
theorem give_f (l : List S29) (low a r : Int) (b : ByteArray) (hl : l.length ≤ 4398046511100) : vote_Give.f l low a r b = some (giveV l low a r b) := by
  unfold vote_Give.f
  rw [if_pos (by omega)]
theorem floor_f (l : List S29) (low : Int) (hl : l.length ≤ 4398046511100) : vote_Floor.f l low = some (l.filter (fun x => !lowV low x)) := by
  unfold vote_Floor.f
  rw [if_pos (by omega)]
theorem len_ins (l : List S29) (a r : Int) (b : ByteArray) : (insV l a r b).length = l.length + 1 := by
  unfold insV
  have := List.findIdx_le_length (xs := l) (p := aheadV a r)
  simp only [List.length_append, List.length_take, List.length_cons, List.length_drop]
  omega
theorem len_give (l : List S29) (low a r : Int) (b : ByteArray) : (giveV l low a r b).1.length ≤ l.length + 1 := by
  unfold giveV
  repeat' split
  all_goals first | (simp only []; omega) | (simp only [len_ins]; omega)
theorem shown_at : selvedgelaw09_shown.f 12 = some true := by decide +kernel
theorem shown_ev : Ev (fun k => selvedgelaw09_shown.f k) true := Ev.of (fun k => selvedgelaw09_shown.mono k) shown_at
theorem VoteFinds (l : List S29) (a r : Int) (hl : l.length ≤ 4398046511000) : ∃ k, selvedgelaw09_VoteFinds.f k l a r = some true := by
  refine Ev.rounds (g := fun k => selvedgelaw09_VoteFinds.f k l a r) ?_
  unfold selvedgelaw09_VoteFinds.f
  refine Ev.bind shown_ev ?_
  refine Ev.bind (find_ev a r l (by omega)) ?_
  refine Ev.bind (refFind_ev a r l (by omega)) ?_
  simp only [if_true, beq_self_eq_true]
  refine Ev.bind (right_ev l (by omega)) ?_
  refine Ev.bind (refRight_ev l (by omega)) ?_
  simp only [beq_self_eq_true]
  exact Ev.now _
end Go.Proofs.Ytlaagbadhkpjgaa.Pure
