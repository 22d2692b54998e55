/- VoteGives: what the law comes to is true at all votes, every floor and ballot; condition: the votes' length is below 4398046511000. -/
import Derived.Test.YtlaagbadhkpjgaaPure0
import Derived.Test.YtlaagbadhkpjgaaQ8
import Derived.Test.YtlaagbadhkpjgaaQ7
namespace Go.Proofs.Ytlaagbadhkpjgaa.Pure
open Go.RowKit Go.Proofs.Ytlaagbadhkpjgaa.Q Go.Proofs.YtlaagbadhkpjgaaW.PrintWords Go.Proofs.YtlaagbadhkpjgaaW.PrintLast Go.Proofs.YtlaagbadhkpjgaaW.PrintMore
/-- What the document's loop has made ahead of place j. -/
def madeV (l : List S29) (a r : Int) (b : ByteArray) (j : Nat) : List S29 := if l.findIdx (aheadV a r) < j then l.take (l.findIdx (aheadV a r)) ++ ⟨a, r, b⟩ :: (l.take j).drop (l.findIdx (aheadV a r)) else l.take j
def doneV (l : List S29) (a r : Int) (j : Nat) : Bool := decide (l.findIdx (aheadV a r) < j)
theorem len_made (l : List S29) (a r : Int) (b : ByteArray) (j : Nat) (hj : j ≤ l.length) : (madeV l a r b j).length ≤ j + 1 := by
  unfold madeV
  split
  · simp only [List.length_append, List.length_take, List.length_cons, List.length_drop]; omega
  · rw [List.length_take]; omega
theorem at_idx (l : List S29) (a r : Int) (j : Nat) (hj : j < l.length) (h : l.findIdx (aheadV a r) = j) : aheadV a r l[j] = true := by
  have := List.findIdx_getElem (xs := l) (p := aheadV a r) (w := by omega)
  simp only [h] at this
  exact this
theorem refGive_loop (l : List S29) (a r : Int) (b : ByteArray) (hl : l.length ≤ 4398046511000) (d : Nat) : ∀ j : Nat, j ≤ l.length → l.length - j = d →
    Ev (fun k => selvedgeref09_Give.l0 k l (madeV l a r b j) (doneV l a r j) (j : Int) a r b) (insV l a r b, 0) := by
  induction d with
  | zero =>
    intro j hj hd
    obtain rfl : j = l.length := by omega
    have hlen := len_made l a r b l.length hj
    refine Ev.step (f := fun _ => some _) (fun k => ?_) (Ev.now _)
    rw [selvedgeref09_Give.l0, if_neg (by omega)]
    by_cases h : l.findIdx (aheadV a r) < l.length
    · have hm : madeV l a r b l.length = insV l a r b := by unfold madeV insV; rw [if_pos h, List.take_of_length_le (Nat.le_refl _)]
      rw [show doneV l a r l.length = true from decide_eq_true h, if_pos rfl, hm]
    · have hi : l.findIdx (aheadV a r) = l.length := Nat.le_antisymm List.findIdx_le_length (Nat.le_of_not_lt h)
      rw [show doneV l a r l.length = false from decide_eq_false h, if_neg (by decide), if_pos (by omega)]
      have hm : madeV l a r b l.length ++ [⟨a, r, b⟩] = insV l a r b := by
        unfold madeV insV
        rw [if_neg h, hi, List.take_of_length_le (Nat.le_refl _), List.drop_of_length_le (Nat.le_refl _)]
      rw [hm]
  | succ d ih =>
    intro j hj hd
    have hlt : j < l.length := by omega
    have hih := ih (j + 1) (by omega) (by omega)
    have hlen := len_made l a r b j hj
    have hw : wrap64 ((j : Int) + 1) = ((j + 1 : Nat) : Int) := by rw [wrap_small (by omega) (by omega)]; rfl
    have hx : (⟨l[j].f0, l[j].f1, l[j].f2⟩ : S29) = l[j] := rfl
    rcases Nat.lt_trichotomy (l.findIdx (aheadV a r)) j with h | h | h
    · have hm : madeV l a r b (j + 1) = madeV l a r b j ++ [l[j]] := by
        unfold madeV
        rw [if_pos (by omega), if_pos h, List.take_succ_eq_append_getElem hlt, List.drop_append_of_le_length (by rw [List.length_take]; omega), List.append_assoc, List.cons_append]
      have hd' : doneV l a r (j + 1) = doneV l a r j := by unfold doneV; rw [decide_eq_true h, decide_eq_true (by omega)]
      rw [hm, hd'] at hih
      have hdj : doneV l a r j = true := decide_eq_true h
      refine Ev.step (fun k => ?_) hih
      rw [selvedgeref09_Give.l0, if_pos (by omega), if_pos hdj, if_pos (by omega), if_pos (by omega), rd_at l j hlt, hw]
    · have hm : madeV l a r b (j + 1) = madeV l a r b j ++ [⟨a, r, b⟩] ++ [l[j]] := by
        unfold madeV
        rw [if_pos (by omega), if_neg (by omega), h, List.take_succ_eq_append_getElem hlt, List.drop_append_of_le_length (by rw [List.length_take]; omega), List.drop_of_length_le (by rw [List.length_take]; omega)]
        simp
      have hd' : doneV l a r (j + 1) = true := decide_eq_true (by omega)
      rw [hm, hd'] at hih
      have hdj : doneV l a r j = false := decide_eq_false (by omega)
      have hq := at_idx l a r j hlt h
      have hlm : (madeV l a r b j).length = j := by unfold madeV; rw [if_neg (by omega), List.length_take]; omega
      refine Ev.step (fun k => ?_) hih
      rw [selvedgeref09_Give.l0, if_pos (by omega), if_neg (by rw [hdj]; decide), if_pos (by omega), rd_at l j hlt, refAhead_is, hq]
      simp only [Option.bind_some, if_true]
      rw [if_pos (by omega), if_pos (by rw [List.length_append, hlm]; simp; omega), hw]
    · have hm : madeV l a r b (j + 1) = madeV l a r b j ++ [l[j]] := by
        unfold madeV
        rw [if_neg (by omega), if_neg (by omega), List.take_succ_eq_append_getElem hlt]
      have hd' : doneV l a r (j + 1) = doneV l a r j := by unfold doneV; rw [decide_eq_false (by omega), decide_eq_false (by omega)]
      rw [hm, hd'] at hih
      have hdj : doneV l a r j = false := decide_eq_false (by omega)
      have hq : aheadV a r l[j] = false := by
        have := List.not_of_lt_findIdx (xs := l) (p := aheadV a r) (i := j) h
        simpa using this
      refine Ev.step (fun k => ?_) hih
      rw [selvedgeref09_Give.l0, if_pos (by omega), if_neg (by rw [hdj]; decide), if_pos (by omega), rd_at l j hlt, refAhead_is, hq]
      simp only [Option.bind_some]
      rw [if_neg (by decide), if_pos (by omega), hw]
theorem refGive_ev (l : List S29) (low a r : Int) (b : ByteArray) (hl : l.length ≤ 4398046511000) : Ev (fun k => selvedgeref09_Give.f k l low a r b) (giveV l low a r b) := by
  unfold selvedgeref09_Give.f giveV
  rw [refMay_is]
  simp only [Option.bind_some]
  cases hm : mayV a r with
  | false => simp only [if_neg (show ¬ (false = true) by decide), if_true]; exact Ev.now _
  | true =>
    simp only [if_true, if_neg (show ¬ (true = false) by decide)]
    by_cases hlow : r ≤ low
    · simp only [if_pos hlow]; exact Ev.now _
    · simp only [if_neg hlow]
      refine Ev.bind (refFind_ev a r l (by omega)) ?_
      cases hf : (findV l a r).2 with
      | true =>
        simp only [if_true]
        by_cases hd : (findV l a r).1.toList = b.toList
        · rw [if_pos hd]
          refine Ev.step (f := fun _ => some _) (fun k => ?_) (Ev.now _)
          rw [selvedgeref09_Give.j0, if_neg (by simp [hd]), if_pos rfl]
        · rw [if_neg hd]
          refine Ev.step (f := fun _ => some _) (fun k => ?_) (Ev.now _)
          rw [selvedgeref09_Give.j0, if_pos (by simp [hd])]
      | false =>
        simp only [if_neg (show ¬ (false = true) by decide)]
        refine Ev.step (fun k => ?_) (refGive_loop l a r b hl l.length 0 (Nat.zero_le _) (by omega))
        rw [selvedgeref09_Give.j0, if_neg (by decide), if_neg (by decide)]
        have e1 : madeV l a r b 0 = [] := by unfold madeV; rw [if_neg (by omega)]; rfl
        have e2 : doneV l a r 0 = false := decide_eq_false (by omega)
        rw [e1, e2]
        rfl
theorem refFloor_loop (l : List S29) (low : Int) (hl : l.length ≤ 4398046511000) (d : Nat) : ∀ j : Nat, j ≤ l.length → l.length - j = d →
    Ev (fun k => selvedgeref09_Floor.l0 k l low ((l.take j).filter (fun x => !lowV low x)) (j : Int)) (l.filter (fun x => !lowV low x)) := by
  induction d with
  | zero =>
    intro j hj hd
    refine Ev.step (f := fun _ => some _) (fun k => ?_) (Ev.now _)
    rw [selvedgeref09_Floor.l0, if_neg (by omega), List.take_of_length_le (by omega)]
  | succ d ih =>
    intro j hj hd
    have hlt : j < l.length := by omega
    have hih := ih (j + 1) (by omega) (by omega)
    have hlen := List.length_filter_le (fun x => !lowV low x) (l.take j)
    rw [List.length_take] at hlen
    have hw : wrap64 ((j : Int) + 1) = ((j + 1 : Nat) : Int) := by rw [wrap_small (by omega) (by omega)]; rfl
    rw [filt_succ hlt] at hih
    refine Ev.step (fun k => ?_) hih
    rw [selvedgeref09_Floor.l0, if_pos (by omega), if_pos (by omega), rd_at l j hlt, hw]
    by_cases h : l[j].f1 > low
    · rw [if_pos h, if_pos (by omega), if_pos (by unfold lowV; rw [decide_eq_false (by omega)]; rfl)]
    · rw [if_neg h, if_neg (by unfold lowV; rw [decide_eq_true (by omega)]; decide), List.append_nil]
theorem refFloor_ev (l : List S29) (low : Int) (hl : l.length ≤ 4398046511000) : Ev (fun k => selvedgeref09_Floor.f k l low) (l.filter (fun x => !lowV low x)) := by
  have := refFloor_loop l low hl l.length 0 (Nat.zero_le _) (by omega)
  exact this
theorem VoteGives (l : List S29) (low a r : Int) (b : ByteArray) (hl : l.length ≤ 4398046511000) : ∃ k, selvedgelaw09_VoteGives.f k l low a r b = some true := by
  refine Ev.rounds (g := fun k => selvedgelaw09_VoteGives.f k l low a r b) ?_
  unfold selvedgelaw09_VoteGives.f
  have h1 := len_give l low a r b
  have h2 := List.length_filter_le (fun x => !lowV low x) l
  refine Ev.bind shown_ev ?_
  rw [give_f l low a r b (by omega)]
  simp only [Option.bind_some]
  refine Ev.bind (refGive_ev l low a r b hl) ?_
  refine Ev.bind (same_ev _ (by omega)) ?_
  rw [floor_f l low (by omega)]
  simp only [Option.bind_some]
  refine Ev.bind (refFloor_ev l low hl) ?_
  refine Ev.bind (same_ev _ (by omega)) ?_
  simp only [if_true, beq_self_eq_true]
  exact Ev.now _
end Go.Proofs.Ytlaagbadhkpjgaa.Pure
