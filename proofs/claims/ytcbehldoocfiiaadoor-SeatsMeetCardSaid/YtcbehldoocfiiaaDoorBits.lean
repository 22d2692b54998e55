/- Plain facts on the bits of a natural number: the numbers of those that are set, as a list, and what is left when the lowest is taken away. No condition. -/
import Derived.Lib.TrailingZeros
namespace Go.Proofs.YtcbehldoocfiiaaDoor

/-- The seats of a set: the places of its bits, from 1 on, rising. -/
def seatsOf (x : Nat) : List Int := ((List.range 64).filter (fun i => x.testBit i)).map (fun i : Nat => (i : Int) + 1)

theorem filter_range_low (p q : Nat → Bool) (t : Nat) (hp : p t = true) (hlow : ∀ i, i < t → p i = false) (hq : q t = false) (hne : ∀ i, i ≠ t → q i = p i) (k : Nat) :
    (List.range (t + 1 + k)).filter p = t :: (List.range (t + 1 + k)).filter q := by
  induction k with
  | zero =>
    have hnil : ∀ (r : Nat → Bool), (∀ i, i < t → r i = false) → (List.range t).filter r = [] := by
      intro r hr
      rw [List.filter_eq_nil_iff]
      intro a ha
      rw [hr a (List.mem_range.1 ha)]; simp
    rw [Nat.add_zero, List.range_succ, List.filter_append, List.filter_append, hnil p hlow, hnil q (fun i hi => by rw [hne i (by omega)]; exact hlow i hi)]
    simp [hp, hq]
  | succ k ih =>
    rw [show t + 1 + (k + 1) = (t + 1 + k) + 1 from rfl, List.range_succ, List.filter_append, List.filter_append, ih]
    have : List.filter p [t + 1 + k] = List.filter q [t + 1 + k] := by simp [List.filter_cons, hne (t + 1 + k) (by omega)]
    rw [this]; rfl

theorem seatsOf_zero : seatsOf 0 = [] := by
  unfold seatsOf
  rw [List.map_eq_nil_iff, List.filter_eq_nil_iff]
  intro a _; simp

/-- A number is its lowest set bit and what is above. -/
theorem low_split (x : Nat) (h0 : x ≠ 0) (h : x < 2 ^ 64) : ∃ t m, t = Lib.ctz 64 x ∧ t < 64 ∧ x = 2 ^ t * (2 * m + 1) := by
  obtain ⟨m, hm, hk⟩ := Lib.ctzFrom_spec 64 x (by omega) h
  exact ⟨_, m, by simp [Lib.ctz, h0], hk, hm⟩

theorem testBit_shift (t m i : Nat) : (2 ^ t * m).testBit i = (decide (t ≤ i) && m.testBit (i - t)) := Nat.testBit_two_pow_mul ..

theorem clear_low (t m : Nat) : (2 ^ t * (2 * m + 1)) &&& (2 ^ t * (2 * m + 1) - 1) = 2 ^ t * (2 * m) := by
  apply Nat.eq_of_testBit_eq
  intro i
  have hpos : 0 < 2 ^ t := Nat.pow_pos (by decide)
  have e : 2 ^ t * (2 * m + 1) - 1 = 2 ^ t * (2 * m) + (2 ^ t - 1) := by
    rw [Nat.mul_add, Nat.mul_one]; omega
  rw [Nat.testBit_and, e, Nat.testBit_two_pow_mul_add _ (by omega), testBit_shift, testBit_shift]
  by_cases hi : i < t
  · simp [hi, Nat.not_le.2 hi]
  · obtain ⟨d, rfl⟩ : ∃ d, i = t + d := ⟨i - t, by omega⟩
    have e2 : t + d - t = d := by omega
    simp only [hi, if_false, Nat.le_add_right, decide_true, Bool.true_and, e2]
    cases d with
    | zero =>
      simp [Nat.testBit_zero, Nat.add_mod]
    | succ d =>
      rw [Nat.testBit_succ, Nat.testBit_succ, show (2 * m + 1) / 2 = m from by omega, show (2 * m) / 2 = m from by omega, Bool.and_self]

theorem seatsOf_step (x : Nat) (h0 : x ≠ 0) (h : x < 2 ^ 64) : seatsOf x = (((Lib.ctz 64 x : Nat) : Int) + 1) :: seatsOf (x &&& (x - 1)) := by
  obtain ⟨t, m, ht, hlt, hx⟩ := low_split x h0 h
  rw [← ht]
  have hc := clear_low t m
  rw [← hx] at hc
  rw [hc]
  unfold seatsOf
  have hr := filter_range_low (fun i => x.testBit i) (fun i => (2 ^ t * (2 * m)).testBit i) t (by
      show x.testBit t = true
      rw [hx, testBit_shift]; simp [Nat.testBit_zero, Nat.add_mod])
    (fun i hi => by show x.testBit i = false; rw [hx, testBit_shift]; simp [Nat.not_le.2 hi])
    (by show (2 ^ t * (2 * m)).testBit t = false; rw [testBit_shift]; simp [Nat.testBit_zero])
    (fun i hi => by
      show (2 ^ t * (2 * m)).testBit i = x.testBit i
      rw [hx, testBit_shift, testBit_shift]
      by_cases hle : t ≤ i
      · obtain ⟨d, hd⟩ : ∃ d, i - t = d + 1 := ⟨i - t - 1, by omega⟩
        rw [hd, Nat.testBit_succ, Nat.testBit_succ, show (2 * m + 1) / 2 = m from by omega, show (2 * m) / 2 = m from by omega]
      · simp [hle]) (63 - t)
  rw [show t + 1 + (63 - t) = 64 from by omega] at hr
  rw [hr]; rfl

theorem clear_lt (x : Nat) (h0 : x ≠ 0) : x &&& (x - 1) < x := Nat.lt_of_le_of_lt Nat.and_le_right (by omega)

theorem seatsOf_length_le (x : Nat) : (seatsOf x).length ≤ 64 := by
  unfold seatsOf
  rw [List.length_map]
  exact Nat.le_trans (List.length_filter_le _ _) (by simp)

end Go.Proofs.YtcbehldoocfiiaaDoor
