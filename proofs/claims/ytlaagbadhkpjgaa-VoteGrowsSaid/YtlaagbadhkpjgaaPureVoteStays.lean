/- VoteStays: what the law comes to is true at every list of ballots, ballot and floor; condition: the list's length is below 4398046511000. -/
import Derived.Test.YtlaagbadhkpjgaaPure0
import Derived.Test.YtlaagbadhkpjgaaQ10
namespace Go.Proofs.Ytlaagbadhkpjgaa.Pure
open Go.RowKit Go.Proofs.Ytlaagbadhkpjgaa.Q Go.Proofs.YtlaagbadhkpjgaaW.PrintWords Go.Proofs.YtlaagbadhkpjgaaW.PrintLast Go.Proofs.YtlaagbadhkpjgaaW.PrintMore
theorem findV_none {l : List S29} {a r : Int} (h : (findV l a r).2 = false) : ∀ x ∈ l, ¬ (x.f0 = a ∧ x.f1 = r) := by
  intro x hx hc
  unfold findV at h
  cases hf : l.find? (atV a r) with
  | some y => rw [hf] at h; cases h
  | none =>
    rw [List.find?_eq_none] at hf
    exact hf x hx (by unfold atV; rw [hc.1, hc.2]; simp)
theorem findV_some {l : List S29} {a r : Int} (h : (findV l a r).2 = true) : ∃ x ∈ l, x.f0 = a ∧ x.f1 = r ∧ (findV l a r).1 = x.f2 := by
  unfold findV at h ⊢
  cases hf : l.find? (atV a r) with
  | none => rw [hf] at h; cases h
  | some y =>
    have h1 := List.find?_some hf
    unfold atV at h1
    rw [Bool.and_eq_true, beq_iff_eq, beq_iff_eq] at h1
    exact ⟨y, List.mem_of_find?_eq_some hf, h1.1, h1.2, rfl⟩
theorem mem_insV {l : List S29} {a r : Int} {b : ByteArray} {x : S29} : x ∈ insV l a r b ↔ x ∈ l ∨ x = ⟨a, r, b⟩ := by
  unfold insV
  rw [List.mem_append, List.mem_cons]
  have ht : x ∈ l ↔ x ∈ l.take (l.findIdx (aheadV a r)) ∨ x ∈ l.drop (l.findIdx (aheadV a r)) := by
    rw [← List.mem_append, List.take_append_drop]
  rw [ht]
  constructor
  · rintro (h | h | h)
    · exact .inl (.inl h)
    · exact .inr h
    · exact .inl (.inr h)
  · rintro ((h | h) | h)
    · exact .inl h
    · exact .inr (.inr h)
    · exact .inr (.inl h)
/-- What Give does: it leaves the votes, or puts one in whose author and round were free. -/
theorem give_cases (l : List S29) (low a r : Int) (b : ByteArray) : ((giveV l low a r b).1 = l ∧ ((giveV l low a r b).2 = 0 → mayV a r = true ∧ low < r ∧ (findV l a r).2 = true ∧ (findV l a r).1.toList = b.toList)) ∨
    ((giveV l low a r b) = (insV l a r b, 0) ∧ mayV a r = true ∧ low < r ∧ (findV l a r).2 = false) := by
  unfold giveV
  cases hm : mayV a r with
  | false => left; rw [if_pos rfl]; exact ⟨rfl, fun h => by cases h⟩
  | true =>
    rw [if_neg (by decide)]
    by_cases hlow : r ≤ low
    · left; rw [if_pos hlow]; exact ⟨rfl, fun h => by cases h⟩
    · rw [if_neg hlow]
      cases hf : (findV l a r).2 with
      | true =>
        left
        rw [if_pos rfl]
        by_cases hd : (findV l a r).1.toList = b.toList
        · rw [if_pos hd]; exact ⟨rfl, fun _ => ⟨rfl, by omega, rfl, hd⟩⟩
        · rw [if_neg hd]; exact ⟨rfl, fun h => by cases h⟩
      | false => right; rw [if_neg (by decide)]; exact ⟨rfl, rfl, by omega, rfl⟩
/-- The ballot is in, and the only one of its author and round. -/
def Only (l : List S29) (x : S29) : Prop := x ∈ l ∧ ∀ y ∈ l, y.f0 = x.f0 → y.f1 = x.f1 → y = x
theorem only_give {l : List S29} {x : S29} (h : Only l x) (low a r : Int) (b : ByteArray) : Only (giveV l low a r b).1 x := by
  rcases give_cases l low a r b with ⟨e, _⟩ | ⟨e, _, _, hf⟩
  · rw [e]; exact h
  · rw [e]
    refine ⟨mem_insV.2 (.inl h.1), fun y hy h0 h1 => ?_⟩
    rcases mem_insV.1 hy with hy | hy
    · exact h.2 y hy h0 h1
    · subst hy
      exact absurd ⟨h0.symm, h1.symm⟩ (findV_none hf x h.1)
theorem only_find {l : List S29} {x : S29} (h : Only l x) : findV l x.f0 x.f1 = (x.f2, true) := by
  cases hf : (findV l x.f0 x.f1).2 with
  | false => exact absurd ⟨rfl, rfl⟩ (findV_none hf x h.1)
  | true =>
    obtain ⟨y, hy, h0, h1, h2⟩ := findV_some hf
    rw [h.2 y hy h0 h1] at h2
    exact Prod.ext h2 hf
theorem stays_loop (l : List S29) (low : Int) (x : S29) (hx : low < x.f1) (hl : l.length ≤ 4398046511000) (d : Nat) : ∀ (j : Nat) (v : List S29), j ≤ l.length → l.length - j = d → v.length ≤ j + 1 → Only v x →
    Ev (fun k => selvedgelaw09_VoteStays.l0 k l low true v (j : Int) x.f0 x.f1 x.f2) true := by
  induction d with
  | zero =>
    intro j v hj hd hv ho
    have hfl := List.length_filter_le (fun z => !lowV low z) v
    refine Ev.step (f := fun k => (vote_Find.f k (v.filter (fun z => !lowV low z)) x.f0 x.f1).bind fun bt239 => (if true = true then (if bt239.2 = true then (some (bt239.1.toList == x.f2.toList)) else (some false)) else (some false))) (fun k => ?_) ?_
    · rw [selvedgelaw09_VoteStays.l0, if_neg (by omega), floor_f v low (by omega)]
      simp only [Option.bind_some]
    · refine Ev.bind (find_ev x.f0 x.f1 _ (by omega)) ?_
      have ho' : Only (v.filter (fun z => !lowV low z)) x := ⟨List.mem_filter.2 ⟨ho.1, by unfold lowV; rw [decide_eq_false (by omega)]; rfl⟩, fun y hy => ho.2 y (List.mem_filter.1 hy).1⟩
      rw [only_find ho']
      simp only [if_true, beq_self_eq_true]
      exact Ev.now _
  | succ d ih =>
    intro j v hj hd hv ho
    have hlt : j < l.length := by omega
    have hlg := len_give v low l[j].f0 l[j].f1 l[j].f2
    have hih := ih (j + 1) (giveV v low l[j].f0 l[j].f1 l[j].f2).1 (by omega) (by omega) (by omega) (only_give ho low _ _ _)
    refine Ev.step (fun k => ?_) hih
    rw [selvedgelaw09_VoteStays.l0, if_pos (by omega), if_pos (by omega), rd_at l j hlt, give_f _ _ _ _ _ (by omega)]
    simp only [Option.bind_some]
    rw [wrap_small (by omega) (by omega)]
    rfl
theorem VoteStays (l : List S29) (a r : Int) (b : ByteArray) (low : Int) (hl : l.length ≤ 4398046511000) : ∃ k, selvedgelaw09_VoteStays.f k l a r b low = some true := by
  refine Ev.rounds (g := fun k => selvedgelaw09_VoteStays.f k l a r b low) ?_
  unfold selvedgelaw09_VoteStays.f
  refine Ev.bind shown_ev ?_
  rw [give_f _ _ _ _ _ (by simp)]
  simp only [Option.bind_some]
  rcases give_cases [] low a r b with ⟨e, h0⟩ | ⟨e, hm, hlow, hf⟩
  · by_cases hz : (giveV [] low a r b).2 = 0
    · have := (h0 hz).2.2.1
      cases this
    · simp only [if_neg hz, if_true]
      have hc : mayV a r = false ∨ r ≤ low := by
        cases hm : mayV a r with
        | false => exact .inl rfl
        | true =>
          right
          apply Classical.byContradiction
          intro hlow
          apply hz
          unfold giveV
          rw [hm, if_neg (by decide), if_neg hlow]
          rfl
      by_cases h1 : a < 1
      · simp only [if_pos h1]; exact Ev.now _
      · by_cases h2 : a > 64
        · simp only [if_neg h1, if_pos h2]; exact Ev.now _
        · by_cases h3 : r < 1
          · simp only [if_neg h1, if_neg h2, if_pos h3]; exact Ev.now _
          · have h4 : r ≤ low := hc.resolve_left (fun hm => by unfold mayV at hm; rw [decide_eq_false_iff_not] at hm; omega)
            simp only [if_neg h1, if_neg h2, if_neg h3, decide_eq_true h4]; exact Ev.now _
  · rw [e]
    simp only [if_true]
    have h1 : insV [] a r b = [⟨a, r, b⟩] := rfl
    rw [h1]
    exact stays_loop l low ⟨a, r, b⟩ hlow hl l.length 0 [⟨a, r, b⟩] (Nat.zero_le _) (by omega) (by simp) ⟨List.mem_singleton.2 rfl, fun y hy _ _ => List.mem_singleton.1 hy⟩
end Go.Proofs.Ytlaagbadhkpjgaa.Pure
