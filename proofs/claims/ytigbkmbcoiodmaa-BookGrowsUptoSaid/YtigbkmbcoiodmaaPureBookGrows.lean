/- BookGrows: what the law comes to is true at every book, list of seals, set and text; conditions: the two lengths' sum is below 5864062014700, the set a uint64. -/
import Derived.Test.YtigbkmbcoiodmaaPureBookStays
import Derived.Test.YtigbkmbcoiodmaaQ9
namespace Go.Proofs.Ytigbkmbcoiodmaa.Pure
open Go.RowKit Go.Proofs.Ytigbkmbcoiodmaa.Q Go.Proofs.YtigbkmbcoiodmaaW.PrintWords Go.Proofs.YtigbkmbcoiodmaaW.PrintLast Go.Proofs.YtigbkmbcoiodmaaW.PrintMore
theorem byN_mono {t : ByteArray} {l l' : List S24} (h : ∀ x ∈ l, x ∈ l') (m : Nat) (hm : m < 64) (hb : (byN t l 0).testBit m = true) : (byN t l' 0).testBit m = true := by
  rw [byN_bit t m hm, any_same] at hb ⊢
  rw [Nat.zero_testBit, Bool.false_or, decide_eq_true_iff] at hb ⊢
  exact h _ hb
theorem byN_and {t : ByteArray} {l l' : List S24} (h : ∀ x ∈ l, x ∈ l') : byN t l 0 &&& byN t l' 0 = byN t l 0 := by
  apply Nat.eq_of_testBit_eq
  intro m
  rw [Nat.testBit_and]
  by_cases hm : m < 64
  · cases hb : (byN t l 0).testBit m with
    | false => rfl
    | true => rw [byN_mono h m hm hb]; rfl
  · have hp : 18446744073709551616 ≤ 2 ^ m := Nat.pow_le_pow_right (n := 2) (by decide) (show 64 ≤ m by omega)
    rw [Nat.testBit_lt_two_pow (Nat.lt_of_lt_of_le (byN_lt t l 0 (by decide)) hp), Bool.false_and]
theorem grows_loop (b l : List S24) (x : Nat) (hx : x < 18446744073709551616) (t : ByteArray) (hl : b.length + l.length ≤ 5864062014700) (d : Nat) : ∀ j : Nat, j ≤ l.length → l.length - j = d →
    Ev (fun k => selvedgelaw06_BookGrows.l0 k (putL b (l.take j)) l x t true (subN x (byN t b 0)) ((byN t b 0 : Nat) : Int) (j : Int)) true := by
  induction d with
  | zero =>
    intro j hj hd
    have hlen := len_putL (l.take j) b
    rw [List.length_take] at hlen
    have hsub : ∀ y ∈ b, y ∈ putL b (l.take j) := fun y hy => mem_putL.2 (.inl hy)
    have hand : (Go.bits .and .u64 ((byN t b 0 : Nat) : Int) ((byN t (putL b (l.take j)) 0 : Nat) : Int) == ((byN t b 0 : Nat) : Int)) = true := by
      rw [and_u64 (byN t b 0) (byN t (putL b (l.take j)) 0) rfl rfl (byN_lt t b 0 (by decide)) (byN_lt t _ 0 (by decide)), byN_and hsub]
      exact beq_self_eq_true _
    cases hq : subN x (byN t b 0) with
    | true =>
      have hq' : subN x (byN t (putL b (l.take j)) 0) = true := by
        rw [subN_iff] at hq ⊢
        exact fun m hm hb => byN_mono hsub m hm (hq m hm hb)
      refine Ev.step (f := fun k => (book_All.f k (putL b (l.take j)) x t).bind fun t250 => (if t250 = true then ((book_By.f k (putL b (l.take j)) t).bind fun t251 => (some ((Go.bits .and .u64 ((byN t b 0 : Nat) : Int) t251) == ((byN t b 0 : Nat) : Int)))) else (some false))) (fun k => by rw [selvedgelaw06_BookGrows.l0, if_neg (by omega), if_pos rfl, if_pos rfl]) ?_
      refine Ev.bind (all_ev t _ (by omega) x hx) ?_
      simp only [hq', if_true]
      refine Ev.bind (by_ev t _ (by omega)) ?_
      rw [hand]
      exact Ev.now _
    | false =>
      refine Ev.step (f := fun k => (book_By.f k (putL b (l.take j)) t).bind fun t251 => (some ((Go.bits .and .u64 ((byN t b 0 : Nat) : Int) t251) == ((byN t b 0 : Nat) : Int)))) (fun k => by rw [selvedgelaw06_BookGrows.l0, if_neg (by omega), if_pos rfl, if_neg (by decide)]) ?_
      refine Ev.bind (by_ev t _ (by omega)) ?_
      rw [hand]
      exact Ev.now _
  | succ d ih =>
    intro j hj hd
    have hlt : j < l.length := by omega
    have hih := ih (j + 1) (by omega) (by omega)
    have hlen := len_putL (l.take j) b
    rw [List.length_take] at hlen
    rw [putL_take b l j hlt] at hih
    refine Ev.step (fun k => ?_) hih
    rw [selvedgelaw06_BookGrows.l0, if_pos (by omega), if_pos (by omega), rd_eq l j hlt, put_f _ _ _ (by omega)]
    simp only [Option.bind_some]
    rw [wrap_small (by omega) (by omega)]
    rfl
theorem BookGrows (b l : List S24) (a : Int) (t : ByteArray) (ha : (Lit.int .u64 a).wf = true) (hl : b.length + l.length ≤ 5864062014700) : ∃ k, selvedgelaw06_BookGrows.f k b l a t = some true := by
  obtain ⟨x, rfl, hx⟩ := u64_nat ha
  refine Ev.rounds (g := fun k => selvedgelaw06_BookGrows.f k b l x t) ?_
  unfold selvedgelaw06_BookGrows.f
  refine Ev.bind shown_ev ?_
  refine Ev.bind (all_ev t b (by omega) x hx) ?_
  refine Ev.bind (by_ev t b (by omega)) ?_
  exact grows_loop b l x hx t hl l.length 0 (Nat.zero_le _) (by omega)
end Go.Proofs.Ytigbkmbcoiodmaa.Pure
