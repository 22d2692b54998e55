/- BookOrder: what the law comes to is true at every list of seals; condition: the list's length is below 5864062014700. -/
import Derived.Test.YtigbkmbcoiodmaaPureBookStays
import Derived.Test.YtigbkmbcoiodmaaQ9
namespace Go.Proofs.Ytigbkmbcoiodmaa.Pure
open Go.RowKit Go.Proofs.Ytigbkmbcoiodmaa.Q Go.Proofs.YtigbkmbcoiodmaaW.PrintWords Go.Proofs.YtigbkmbcoiodmaaW.PrintLast Go.Proofs.YtigbkmbcoiodmaaW.PrintMore
theorem asc_eq : ∀ (l l' : List S24), Asc l → Asc l' → (∀ x, x ∈ l ↔ x ∈ l') → l = l'
  | [], [], _, _, _ => rfl
  | [], y :: _, _, _, h => by have := (h y).2 List.mem_cons_self; cases this
  | x :: _, [], _, _, h => by have := (h x).1 List.mem_cons_self; cases this
  | x :: xs, y :: ys, h1, h2, h => by
    obtain ⟨a1, b1⟩ := List.pairwise_cons.1 h1
    obtain ⟨a2, b2⟩ := List.pairwise_cons.1 h2
    have e : x = y := by
      rcases List.mem_cons.1 ((h x).1 List.mem_cons_self) with e | e
      · exact e
      · rcases List.mem_cons.1 ((h y).2 List.mem_cons_self) with e' | e'
        · exact e'.symm
        · have := ltB_trans (a2 x e) (a1 y e')
          rw [ltB_irrefl] at this
          cases this
    subst e
    rw [asc_eq xs ys b1 b2 (fun z => ⟨fun hz => ?_, fun hz => ?_⟩)]
    · rcases List.mem_cons.1 ((h z).1 (List.mem_cons_of_mem _ hz)) with e | e
      · subst e
        have := a1 z hz
        rw [ltB_irrefl] at this
        cases this
      · exact e
    · rcases List.mem_cons.1 ((h z).2 (List.mem_cons_of_mem _ hz)) with e | e
      · subst e
        have := a2 z hz
        rw [ltB_irrefl] at this
        cases this
      · exact e
theorem order_loop (l : List S24) (hl : l.length ≤ 5864062014700) (d : Nat) : ∀ j : Nat, j ≤ l.length → l.length - j = d →
    Ev (fun k => selvedgelaw06_BookOrder.l0 k l true (putL [] (l.take j)) (putL [] (l.reverse.take j)) (j : Int)) true := by
  induction d with
  | zero =>
    intro j hj hd
    have e : putL [] (l.take j) = putL [] (l.reverse.take j) := by
      refine asc_eq _ _ (asc_putL _ _ List.Pairwise.nil) (asc_putL _ _ List.Pairwise.nil) (fun x => ?_)
      rw [mem_putL, mem_putL, List.take_of_length_le (by omega), List.take_of_length_le (by rw [List.length_reverse]; omega), List.mem_reverse]
    rw [← e]
    have hlen := len_putL (l.take j) []
    rw [List.length_take, List.length_nil] at hlen
    refine Ev.step (f := fun k => (selvedgeref06_Same.f k (putL [] (l.take j)) (putL [] (l.take j))).bind fun t241 => (if true = true then (some t241) else (some false))) (fun k => by rw [selvedgelaw06_BookOrder.l0, if_neg (by omega)]) ?_
    refine Ev.bind (same_ev _ (by omega)) ?_
    simp only [if_true]
    exact Ev.now _
  | succ d ih =>
    intro j hj hd
    have hlt : j < l.length := by omega
    have hih := ih (j + 1) (by omega) (by omega)
    have hlen := len_putL (l.take j) []
    have hlen' := len_putL (l.reverse.take j) []
    rw [List.length_take, List.length_nil] at hlen hlen'
    rw [List.length_reverse] at hlen'
    have hrl : j < l.reverse.length := by rw [List.length_reverse]; exact hlt
    rw [putL_take [] l j hlt, putL_take [] l.reverse j hrl] at hih
    have hrv : l.reverse[j] = l[l.length - 1 - j] := List.getElem_reverse _
    rw [hrv] at hih
    refine Ev.step (fun k => ?_) hih
    have hw : wrap64 (wrap64 ((l.length : Int) - 1) - (j : Int)) = ((l.length - 1 - j : Nat) : Int) := by
      rw [wrap_small (a := (l.length : Int) - 1) (by omega) (by omega), wrap_small (by omega) (by omega)]
      omega
    rw [selvedgelaw06_BookOrder.l0, if_pos (by omega), if_pos (by omega), rd_eq l j hlt, put_f _ _ _ (by omega), hw, rd_eq l (l.length - 1 - j) (by omega)]
    simp only [Option.bind_some]
    rw [if_pos (by omega), if_pos (by omega), put_f _ _ _ (by omega)]
    simp only [Option.bind_some]
    rw [wrap_small (by omega) (by omega)]
    rfl
theorem BookOrder (l : List S24) (hl : l.length ≤ 5864062014700) : ∃ k, selvedgelaw06_BookOrder.f k l = some true := by
  refine Ev.rounds (g := fun k => selvedgelaw06_BookOrder.f k l) ?_
  unfold selvedgelaw06_BookOrder.f
  refine Ev.bind shown_ev ?_
  exact order_loop l hl l.length 0 (Nat.zero_le _) (by omega)
end Go.Proofs.Ytigbkmbcoiodmaa.Pure
