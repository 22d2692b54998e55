/- VoteGrows: what the law comes to is true at all votes, every floor and ballot; condition: the votes' length is below 4398046511000. -/
import Derived.Test.YtlaagbadhkpjgaaPureVoteStays
import Derived.Test.YtlaagbadhkpjgaaQ6
namespace Go.Proofs.Ytlaagbadhkpjgaa.Pure
open Go.RowKit Go.Proofs.Ytlaagbadhkpjgaa.Q Go.Proofs.YtlaagbadhkpjgaaW.PrintWords Go.Proofs.YtlaagbadhkpjgaaW.PrintLast Go.Proofs.YtlaagbadhkpjgaaW.PrintMore
theorem eqv_self (x : S29) : ((x.f0 == x.f0) && ((x.f1 == x.f1) && (x.f2.toList == x.f2.toList))) = true := by simp
theorem grows_same (l : List S29) (a r : Int) (b : ByteArray) (hl : l.length ≤ 4398046511100) (d : Nat) : ∀ j : Nat, j ≤ l.length → l.length - j = d →
    Ev (fun k => selvedgelaw09_VoteGrows.l0 k l true l (j : Int) (j : Int) a r b) true := by
  induction d with
  | zero =>
    intro j hj hd
    obtain rfl : j = l.length := by omega
    refine Ev.step (f := fun _ => some _) (fun k => ?_) (Ev.now _)
    rw [selvedgelaw09_VoteGrows.l0, if_neg (by omega), if_pos rfl, beq_self_eq_true]
  | succ d ih =>
    intro j hj hd
    have hih := ih (j + 1) (by omega) (by omega)
    refine Ev.step (f := fun k => selvedgelaw09_VoteGrows.j2 k l true l (j : Int) (j : Int) true a r b) (fun k => ?_) ?_
    · rw [selvedgelaw09_VoteGrows.l0, if_pos (by omega), if_pos (by omega), if_pos (by omega), if_pos (by omega), eqv_self]
    · refine Ev.step (fun k => ?_) hih
      rw [selvedgelaw09_VoteGrows.j2, if_pos rfl, wrap_small (by omega) (by omega)]
      rfl
theorem ins_lo (l : List S29) (a r : Int) (b : ByteArray) (i : Nat) (h : i < l.findIdx (aheadV a r)) (hi : i < l.length) : rd_T29 (insV l a r b) (i : Int) = l[i] := by
  rw [rd_at _ i (by rw [len_ins]; omega)]
  unfold insV
  rw [List.getElem_append_left (by rw [List.length_take]; omega), List.getElem_take]
theorem ins_at (l : List S29) (a r : Int) (b : ByteArray) : rd_T29 (insV l a r b) ((l.findIdx (aheadV a r) : Nat) : Int) = ⟨a, r, b⟩ := by
  have hle := List.findIdx_le_length (xs := l) (p := aheadV a r)
  have hlt : (l.take (l.findIdx (aheadV a r))).length = l.findIdx (aheadV a r) := by rw [List.length_take]; omega
  rw [rd_at _ _ (by rw [len_ins]; omega)]
  unfold insV
  rw [List.getElem_append_right (by omega)]
  simp only [hlt, Nat.sub_self, List.getElem_cons_zero]
theorem ins_hi (l : List S29) (a r : Int) (b : ByteArray) (i : Nat) (h : l.findIdx (aheadV a r) ≤ i) (hi : i < l.length) : rd_T29 (insV l a r b) ((i + 1 : Nat) : Int) = l[i] := by
  have hlt : (l.take (l.findIdx (aheadV a r))).length = l.findIdx (aheadV a r) := by rw [List.length_take]; omega
  rw [rd_at _ _ (by rw [len_ins]; omega)]
  unfold insV
  rw [List.getElem_append_right (by omega)]
  simp only [hlt]
  have e : i + 1 - l.findIdx (aheadV a r) = (i - l.findIdx (aheadV a r)) + 1 := by omega
  simp only [e, List.getElem_cons_succ, List.getElem_drop]
  congr 1
  omega
theorem grows_ins (l : List S29) (a r : Int) (b : ByteArray) (hl : l.length ≤ 4398046511000) (hn : ∀ x ∈ l, ¬ (x.f0 = a ∧ x.f1 = r)) (d : Nat) : ∀ i : Nat, i ≤ l.length + 1 → l.length + 1 - i = d →
    Ev (fun k => selvedgelaw09_VoteGrows.l0 k l true (insV l a r b) (((if i ≤ l.findIdx (aheadV a r) then i else i - 1 : Nat)) : Int) (i : Int) a r b) true := by
  have hle := List.findIdx_le_length (xs := l) (p := aheadV a r)
  have hlen := len_ins l a r b
  obtain ⟨n, hnn⟩ : ∃ n, n = l.findIdx (aheadV a r) := ⟨_, rfl⟩
  induction d with
  | zero =>
    intro i hi hd
    obtain rfl : i = l.length + 1 := by omega
    rw [if_neg (by omega)]
    refine Ev.step (f := fun _ => some _) (fun k => ?_) (Ev.now _)
    rw [selvedgelaw09_VoteGrows.l0, if_neg (by omega), if_pos rfl, Nat.add_sub_cancel, beq_self_eq_true]
  | succ d ih =>
    intro i hi hd
    have hih := ih (i + 1) (by omega) (by omega)
    have hw : wrap64 ((i : Int) + 1) = ((i + 1 : Nat) : Int) := by rw [wrap_small (by omega) (by omega)]; rfl
    rcases Nat.lt_trichotomy i (l.findIdx (aheadV a r)) with h | h | h
    · rw [if_pos (by omega)] at hih ⊢
      refine Ev.step (f := fun k => selvedgelaw09_VoteGrows.j2 k l true (insV l a r b) (i : Int) (i : Int) true a r b) (fun k => ?_) ?_
      · rw [selvedgelaw09_VoteGrows.l0, if_pos (by omega), if_pos (by omega), if_pos (by omega), if_pos (by omega), ins_lo l a r b i h (by omega), rd_at l i (by omega), eqv_self]
      · refine Ev.step (fun k => ?_) hih
        rw [selvedgelaw09_VoteGrows.j2, if_pos rfl, hw]
    · rw [if_neg (by omega), Nat.add_sub_cancel] at hih
      rw [if_pos (by omega)]
      have hk : rd_T29 (insV l a r b) (i : Int) = ⟨a, r, b⟩ := by rw [h]; exact ins_at l a r b
      have tail : Ev (fun k => selvedgelaw09_VoteGrows.j2 k l true (insV l a r b) (i : Int) (i : Int) false a r b) true := by
        refine Ev.step (fun k => ?_) hih
        rw [selvedgelaw09_VoteGrows.j2, if_neg (by decide), if_pos (by omega), if_pos (by omega), hk, if_neg (by simp), hw]
      refine Ev.step (fun k => ?_) tail
      by_cases hil : i < l.length
      · have hne : ((a == l[i].f0) && ((r == l[i].f1) && (b.toList == l[i].f2.toList))) = false := by
          have := hn l[i] (List.getElem_mem hil)
          by_cases h0 : a = l[i].f0
          · by_cases h1 : r = l[i].f1
            · exact absurd ⟨h0.symm, h1.symm⟩ this
            · simp [h1]
          · simp [h0]
        rw [selvedgelaw09_VoteGrows.l0, if_pos (by omega), if_pos (by omega), if_pos (by omega), if_pos (by omega), hk, rd_at l i hil]
        simp only [hne]
      · rw [selvedgelaw09_VoteGrows.l0, if_pos (by omega), if_neg (by omega)]
    · rw [if_neg (by omega), Nat.add_sub_cancel] at hih
      rw [if_neg (by omega)]
      obtain ⟨m, rfl⟩ : ∃ m, i = m + 1 := ⟨i - 1, by omega⟩
      rw [Nat.add_sub_cancel]
      have hw2 : wrap64 ((m : Int) + 1) = ((m + 1 : Nat) : Int) := by rw [wrap_small (by omega) (by omega)]; rfl
      refine Ev.step (f := fun k => selvedgelaw09_VoteGrows.j2 k l true (insV l a r b) (m : Int) ((m + 1 : Nat) : Int) true a r b) (fun k => ?_) ?_
      · rw [selvedgelaw09_VoteGrows.l0, if_pos (by omega), if_pos (by omega), if_pos (by omega), if_pos (by omega), ins_hi l a r b m (by omega) (by omega), rd_at l m (by omega), eqv_self]
      · refine Ev.step (fun k => ?_) hih
        rw [selvedgelaw09_VoteGrows.j2, if_pos rfl, hw, hw2]
theorem VoteGrows (l : List S29) (low a r : Int) (b : ByteArray) (hl : l.length ≤ 4398046511000) : ∃ k, selvedgelaw09_VoteGrows.f k l low a r b = some true := by
  refine Ev.rounds (g := fun k => selvedgelaw09_VoteGrows.f k l low a r b) ?_
  unfold selvedgelaw09_VoteGrows.f
  refine Ev.bind shown_ev ?_
  rw [give_f _ _ _ _ _ (by omega)]
  simp only [Option.bind_some]
  rcases give_cases l low a r b with ⟨e, h0⟩ | ⟨e, hm, hlow, hf⟩
  · by_cases hz : (giveV l low a r b).2 = 0
    · simp only [if_pos hz, e, if_true]
      refine Ev.step (f := fun k => selvedgelaw09_VoteGrows.l0 k l true l 0 0 a r b) (fun k => by rw [selvedgelaw09_VoteGrows.j0, if_neg (by decide)]) ?_
      exact grows_same l a r b (by omega) l.length 0 (Nat.zero_le _) (by omega)
    · simp only [if_neg hz, e, if_true]
      refine Ev.bind (same_ev l (by omega)) ?_
      exact Ev.now _
  · rw [e]
    have hlen := len_ins l a r b
    simp only [if_true, hlen]
    have hne : (((l.length + 1 : Nat) : Int) != wrap64 ((l.length : Int) + 1)) = false := by
      rw [wrap_small (by omega) (by omega)]
      simp
    simp only [hne, if_neg (show ¬ (((l.length + 1 : Nat) : Int) = (l.length : Int)) by omega)]
    refine Ev.step (f := fun k => selvedgelaw09_VoteGrows.l0 k l true (insV l a r b) 0 0 a r b) (fun k => by rw [selvedgelaw09_VoteGrows.j0, if_neg (by decide)]) ?_
    have := grows_ins l a r b hl (findV_none hf) (l.length + 1) 0 (by omega) (by omega)
    rw [if_pos (by omega)] at this
    exact this
end Go.Proofs.Ytlaagbadhkpjgaa.Pure
