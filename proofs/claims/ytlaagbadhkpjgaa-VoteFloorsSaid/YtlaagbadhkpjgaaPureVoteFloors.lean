/- VoteFloors: what the law comes to is true at all votes, two floors and a ballot; condition: the votes' length is below 4398046511000. -/
import Derived.Test.YtlaagbadhkpjgaaPure0
import Derived.Test.YtlaagbadhkpjgaaQ10
namespace Go.Proofs.Ytlaagbadhkpjgaa.Pure
open Go.RowKit Go.Proofs.Ytlaagbadhkpjgaa.Q Go.Proofs.YtlaagbadhkpjgaaW.PrintWords Go.Proofs.YtlaagbadhkpjgaaW.PrintLast Go.Proofs.YtlaagbadhkpjgaaW.PrintMore
theorem floor_floor (l : List S29) (a b m : Int) (hm : m = if b > a then b else a) : (l.filter (fun x => !lowV a x)).filter (fun x => !lowV b x) = l.filter (fun x => !lowV m x) := by
  rw [List.filter_filter]
  apply List.filter_congr
  intro x _
  unfold lowV
  rw [hm, Bool.eq_iff_iff]
  simp only [Bool.and_eq_true, Bool.not_eq_true', decide_eq_false_iff_not]
  split <;> omega
theorem give_low (l : List S29) (low a r : Int) (b : ByteArray) (h : r ≤ low) : ((giveV l low a r b).2 != 0) = true := by
  unfold giveV
  cases mayV a r
  · rfl
  · rw [if_neg (by decide), if_pos h]; rfl
theorem floors_j (l : List S29) (x y m a r : Int) (b : ByteArray) (hl : l.length ≤ 4398046511000) (hm : m = if y > x then y else x) : Ev (fun k => selvedgelaw09_VoteFloors.j0 k l x y true m a r b) true := by
  have h1 := List.length_filter_le (fun z => !lowV x z) l
  have h2 := List.length_filter_le (fun z => !lowV m z) l
  refine Ev.step (f := fun k => (selvedgeref09_Same.f k (l.filter (fun z => !lowV m z)) (l.filter (fun z => !lowV m z))).bind fun t253 => (if true = true then (if t253 = true then (if r > x then (some true) else (some ((giveV l x a r b).2 != 0))) else (some false)) else (some false))) (fun k => ?_) ?_
  · rw [selvedgelaw09_VoteFloors.j0, floor_f l x (by omega)]
    simp only [Option.bind_some]
    rw [floor_f _ y (by omega)]
    simp only [Option.bind_some]
    rw [floor_f l m (by omega), floor_floor l x y m hm, give_f l x a r b (by omega)]
    simp only [Option.bind_some]
  · refine Ev.bind (same_ev _ (by omega)) ?_
    simp only [if_true]
    by_cases h : r > x
    · simp only [if_pos h]; exact Ev.now _
    · simp only [if_neg h, give_low l x a r b (by omega)]; exact Ev.now _
theorem VoteFloors (l : List S29) (x y a r : Int) (b : ByteArray) (hl : l.length ≤ 4398046511000) : ∃ k, selvedgelaw09_VoteFloors.f k l x y a r b = some true := by
  refine Ev.rounds (g := fun k => selvedgelaw09_VoteFloors.f k l x y a r b) ?_
  unfold selvedgelaw09_VoteFloors.f
  refine Ev.bind shown_ev ?_
  by_cases h : y > x
  · simp only [if_pos h]; exact floors_j l x y y a r b hl (by rw [if_pos h])
  · simp only [if_neg h]; exact floors_j l x y x a r b hl (by rw [if_neg h])
end Go.Proofs.Ytlaagbadhkpjgaa.Pure
