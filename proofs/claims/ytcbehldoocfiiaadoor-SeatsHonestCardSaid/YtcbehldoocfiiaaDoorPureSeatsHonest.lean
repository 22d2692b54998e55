/- SeatsHonest: what the law comes to is true at every number and two sets. -/
import Derived.Test.YtcbehldoocfiiaaDoorPure0
namespace Go.Proofs.YtcbehldoocfiiaaDoor.Pure
open Go.RowKit Go.Proofs.YtcbehldoocfiiaaDoor.Q Go.Proofs.YtcbehldoocfiiaaDoorW.PrintWords Go.Proofs.YtcbehldoocfiiaaDoorW.PrintLast Go.Proofs.YtcbehldoocfiiaaDoorW.PrintMore

theorem wrap_sub_nat (x y : Nat) (h : y ≤ x) (hx : x < 18446744073709551616) : IntKind.u64.wrap ((x : Int) - (y : Int)) = ((x - y : Nat) : Int) :=
  wrap_nat _ (by omega) (by omega)

theorem cnt_all (m : Nat) (hm : m ≤ 64) : cnt 64 (2 ^ m - 1) = m := by
  have key : ∀ n m, m ≤ n → cnt n (2 ^ m - 1) = m := by
    intro n
    induction n with
    | zero => intro m h; obtain rfl : m = 0 := by omega
              rfl
    | succ n ih =>
      intro m h
      cases m with
      | zero => rw [Nat.pow_zero, Nat.sub_self, cnt_zero]
      | succ m =>
        have := ih m (by omega)
        have hp : 0 < 2 ^ m := Nat.pow_pos (by decide)
        rw [cnt, Nat.pow_succ, show (2 ^ m * 2 - 1) / 2 = 2 ^ m - 1 from by omega, this, show (2 ^ m * 2 - 1) % 2 = 1 from by omega]
        omega
  exact key 64 m hm

theorem and_all (m f : Nat) (h : f < 2 ^ m) : (2 ^ m - 1) &&& f = f := by
  rw [Nat.and_comm, Nat.and_two_pow_sub_one_eq_mod, Nat.mod_eq_of_lt h]

theorem last_sum (m : Nat) (cy cf cyf cd : Nat) (hq : ¬ ((cy : Int) < (m : Int) - ((m : Int) - 1) / 3)) (s2 : cd + cyf = cy) (hcf : cyf ≤ cf) (hc : cf ≤ (m - 1) / 3) (h4 : 4 ≤ m) (h3 : m % 3 = 1) :
    (cd : Int) ≥ ((m : Int) - 1) / 3 + 1 := by omega

theorem honest_end (m : Nat) (hm : mayB m = true) (f y : Nat) (hf : f < 2 ^ m) (hy : y < 2 ^ m) (hc : cnt 64 f ≤ (m - 1) / 3) (k : Nat) :
    selvedgelaw05_SeatsHonest.l0 (k + 1) m f y ((2 ^ m - 1 : Nat) : Int) ((m : Int) + 1) = some true := by
  obtain ⟨m1, m2, m3⟩ := mayB_true hm
  have hp : 2 ^ m ≤ 2 ^ 64 := Nat.pow_le_pow_right (by decide) (by omega)
  have hp0 : 0 < 2 ^ m := Nat.pow_pos (by decide)
  have h64 : (2 : Nat) ^ 64 = 18446744073709551616 := by decide
  have ha : 2 ^ m - 1 < 18446744073709551616 := by omega
  have hf64 : f < 18446744073709551616 := by omega
  have hy64 : y < 18446744073709551616 := by omega
  have hd : 2 ^ m - 1 - f < 18446744073709551616 := by omega
  have hyf : y &&& f ≤ y := Nat.and_le_left
  have hyd : y - (y &&& f) < 18446744073709551616 := by omega
  have s1 := cnt_sub_and 64 (2 ^ m - 1) f
  rw [and_all m f hf, cnt_all m (by omega)] at s1
  have s2 := cnt_sub_and 64 y f
  have hcf : cnt 64 (y &&& f) ≤ cnt 64 f := by
    have := cnt_sub_and 64 f y
    rw [Nat.and_comm f y] at this; omega
  simp only [selvedgelaw05_SeatsHonest.l0]
  rw [if_neg (by omega), wrap_sub_nat _ _ (by omega) ha, count_f _ hd, quorum_f, hm]
  simp only [if_true, Option.bind_some]
  rw [if_neg (by rw [seatsOf_length]; omega), count_f _ hy64]
  simp only [Option.bind_some]
  by_cases hq : ((seatsOf y).length : Int) < (m : Int) - ((m : Int) - 1) / 3
  · rw [if_pos hq]
  · rw [if_neg hq, and_u64 y f rfl rfl hy64 hf64, wrap_sub_nat _ _ hyf hy64, count_f _ hyd, weak_f, hm]
    simp only [if_true, Option.bind_some]
    rw [seatsOf_length] at hq ⊢
    rw [decide_eq_true (last_sum _ _ _ _ _ hq s2 hcf hc (by omega) (by omega))]

theorem honest_loop (m : Nat) (hm : mayB m = true) (f y : Nat) (hf : f < 2 ^ m) (hy : y < 2 ^ m) (hc : cnt 64 f ≤ (m - 1) / 3) (d : Nat) : ∀ j : Nat, j ≤ m → m - j = d →
    Ev (fun k => selvedgelaw05_SeatsHonest.l0 k m f y ((2 ^ j - 1 : Nat) : Int) ((j : Int) + 1)) true := by
  obtain ⟨m1, m2, m3⟩ := mayB_true hm
  induction d with
  | zero =>
    intro j hj hd
    obtain rfl : j = m := by omega
    exact Ev.step (f := fun _ => some true) (fun k => honest_end j hm f y hf hy hc k) (Ev.now true)
  | succ d ih =>
    intro j hj hd
    have hp : 2 ^ j < 2 ^ 64 := Nat.pow_lt_pow_right (by decide) (by omega)
    refine Ev.step (fun k => ?_) (ih (j + 1) (by omega) (by omega))
    simp only [selvedgelaw05_SeatsHonest.l0]
    rw [if_pos (by omega), put_f _ (by omega) _ (by omega) (by omega), show ((j : Int) + 1).toNat - 1 = j from by omega, low_or, wrap_small (by omega) (by omega)]
    rfl

theorem j0_up' (n a b : Int) : Ev (fun k => selvedgelaw05_SeatsHonest.j0 k n a b true true) true :=
  Ev.step (f := fun _ => some true) (fun k => by simp only [selvedgelaw05_SeatsHonest.j0, if_true]) (Ev.now true)

theorem SeatsHonest (n f a : Int) (_hn : (Lit.int .i64 n).wf = true) (hf : (Lit.int .u64 f).wf = true) (ha : (Lit.int .u64 a).wf = true) : ∃ k, selvedgelaw05_SeatsHonest.f k n f a = some true := by
  obtain ⟨x, rfl, hx⟩ := u64_nat hf
  obtain ⟨y, rfl, hy⟩ := u64_nat ha
  refine Ev.rounds (g := fun k => selvedgelaw05_SeatsHonest.f k n x y) ?_
  unfold selvedgelaw05_SeatsHonest.f
  refine Ev.bind shown_ev ?_
  simp only [if_true, may_f, Option.bind_some]
  by_cases hm : mayB n = true
  · obtain ⟨m1, m2, m3⟩ := mayB_true hm
    obtain ⟨m, rfl⟩ := Int.eq_ofNat_of_zero_le (show 0 ≤ n by omega)
    rw [hm]
    simp only [if_true, within_f y m (by omega), within_f x m (by omega), Option.bind_some]
    by_cases h1 : y < 2 ^ m
    · by_cases h2 : x < 2 ^ m
      · simp only [decide_eq_true h1, decide_eq_true h2, if_true, count_f x hx, faults_f, hm, Option.bind_some]
        by_cases h3 : ((seatsOf x).length : Int) > ((m : Int) - 1) / 3
        · rw [decide_eq_true h3]; exact j0_up' _ _ _
        · rw [decide_eq_false h3]
          rw [seatsOf_length] at h3
          refine Ev.step (fun k => ?_) (honest_loop m hm x y h2 h1 (by omega) m 0 (by omega) (by omega))
          simp only [selvedgelaw05_SeatsHonest.j0]
          rw [if_neg (by decide)]
          rfl
      · simp only [decide_eq_true h1, decide_eq_false h2, if_true, if_neg (show ¬ (false = true) by decide)]; exact j0_up' _ _ _
    · simp only [decide_eq_false h1, if_neg (show ¬ (false = true) by decide)]; exact j0_up' _ _ _
  · simp only [if_neg hm]
    exact j0_up' _ _ _

end Go.Proofs.YtcbehldoocfiiaaDoor.Pure
