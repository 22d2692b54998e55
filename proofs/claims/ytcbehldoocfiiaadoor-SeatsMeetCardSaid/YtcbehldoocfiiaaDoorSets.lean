/- Plain facts on sets of seats as numbers: what or, and, taking away do to how many are in; which are in; the list of them. No condition but those that each theorem states. -/
import Derived.Test.YtcbehldoocfiiaaDoorPop
namespace Go.Proofs.YtcbehldoocfiiaaDoor

theorem cnt_or_and (n x y : Nat) : cnt n (x ||| y) + cnt n (x &&& y) = cnt n x + cnt n y := by
  induction n generalizing x y with
  | zero => rfl
  | succ n ih =>
    have h := ih (x / 2) (y / 2)
    have e1 : (x ||| y) / 2 = x / 2 ||| y / 2 := Nat.or_div_two
    have e2 : (x &&& y) / 2 = x / 2 &&& y / 2 := Nat.and_div_two
    have e3 : (x ||| y) % 2 + (x &&& y) % 2 = x % 2 + y % 2 := by
      have h1 : (x ||| y) % 2 = 1 ↔ x % 2 = 1 ∨ y % 2 = 1 := Nat.or_mod_two_eq_one
      have h2 : (x &&& y) % 2 = 1 ↔ x % 2 = 1 ∧ y % 2 = 1 := Nat.and_mod_two_eq_one
      generalize (x ||| y) = p at *
      generalize (x &&& y) = q at *
      omega
    simp only [cnt, e1, e2]
    omega

theorem cnt_sub_and (n x y : Nat) : cnt n (x - (x &&& y)) + cnt n (x &&& y) = cnt n x := by
  induction n generalizing x y with
  | zero => rfl
  | succ n ih =>
    have h := ih (x / 2) (y / 2)
    have e2 : (x &&& y) / 2 = x / 2 &&& y / 2 := Nat.and_div_two
    have h2 : (x &&& y) % 2 = 1 ↔ x % 2 = 1 ∧ y % 2 = 1 := Nat.and_mod_two_eq_one
    have hle : x &&& y ≤ x := Nat.and_le_left
    have hle2 : x / 2 &&& y / 2 ≤ x / 2 := Nat.and_le_left
    simp only [cnt]
    rw [e2]
    have e4 : (x - (x &&& y)) / 2 = x / 2 - (x / 2 &&& y / 2) := by
      rw [← e2] at hle2 ⊢
      generalize (x &&& y) = q at *
      omega
    rw [e4]
    have e5 : (x - (x &&& y)) % 2 + (x &&& y) % 2 = x % 2 := by
      rw [← e2] at hle2
      generalize (x &&& y) = q at *
      omega
    omega

theorem cnt_zero (n : Nat) : cnt n 0 = 0 := by
  induction n with
  | zero => rfl
  | succ n ih => simp [cnt, ih]

theorem cnt_le (n x : Nat) : cnt n x ≤ n := by
  induction n generalizing x with
  | zero => simp [cnt]
  | succ n ih => have := ih (x / 2); simp only [cnt]; omega

/-- A set within m seats has m at most. -/
theorem cnt_le_of_lt (n m x : Nat) (h : x < 2 ^ m) : cnt n x ≤ m := by
  induction n generalizing x m with
  | zero => simp [cnt]
  | succ n ih =>
    cases m with
    | zero =>
      have : x = 0 := by simpa using h
      subst this; rw [cnt_zero]; exact Nat.le_refl _
    | succ m =>
      have h2 : x / 2 < 2 ^ m := by rw [Nat.pow_succ] at h; omega
      have := ih m (x / 2) h2
      simp only [cnt]; omega

theorem cnt_pow (n j : Nat) (h : j < n) : cnt n (2 ^ j) = 1 := by
  induction n generalizing j with
  | zero => omega
  | succ n ih =>
    cases j with
    | zero => simp only [cnt, Nat.pow_zero, Nat.reduceMod, Nat.reduceDiv, cnt_zero]
    | succ j =>
      have := ih j (by omega)
      rw [cnt, Nat.pow_succ, Nat.mul_mod_left, Nat.mul_div_cancel _ (by decide), this]

theorem and_pow (x j : Nat) : x &&& 2 ^ j = if x.testBit j then 2 ^ j else 0 := by
  apply Nat.eq_of_testBit_eq
  intro i
  rw [Nat.testBit_and, Nat.testBit_two_pow]
  by_cases e : j = i
  · subst e
    by_cases h : x.testBit j
    · simp [h]
    · simp [h]
  · by_cases h : x.testBit j
    · rw [if_pos h, Nat.testBit_two_pow]; simp [e]
    · rw [if_neg h]; simp [e]

theorem cnt_put (x j : Nat) (h : j < 64) : cnt 64 (x ||| 2 ^ j) = cnt 64 x + if x.testBit j then 0 else 1 := by
  have h1 := cnt_or_and 64 x (2 ^ j)
  rw [and_pow, cnt_pow 64 j h] at h1
  by_cases hb : x.testBit j
  · rw [if_pos hb, cnt_pow 64 j h] at h1
    rw [if_pos hb]; omega
  · rw [if_neg hb, cnt_zero] at h1
    rw [if_neg hb]; omega

theorem or_pow_add (j x : Nat) (h : x.testBit j = false) : x ||| 2 ^ j = x + 2 ^ j := by
  induction j generalizing x with
  | zero =>
    have h0 : x % 2 = 0 := by simp [Nat.testBit_zero] at h; omega
    have e1 : (x ||| 1) / 2 = x / 2 ||| 1 / 2 := Nat.or_div_two
    have e2 : (x ||| 1) % 2 = 1 ↔ x % 2 = 1 ∨ 1 % 2 = 1 := Nat.or_mod_two_eq_one
    rw [show 1 / 2 = 0 from rfl, Nat.or_zero] at e1
    show x ||| 1 = x + 1
    generalize x ||| 1 = p at *
    omega
  | succ j ih =>
    rw [Nat.testBit_succ] at h
    have h1 := ih (x / 2) h
    have e1 : (x ||| 2 ^ (j + 1)) / 2 = x / 2 ||| 2 ^ (j + 1) / 2 := Nat.or_div_two
    have e2 : (x ||| 2 ^ (j + 1)) % 2 = 1 ↔ x % 2 = 1 ∨ 2 ^ (j + 1) % 2 = 1 := Nat.or_mod_two_eq_one
    have e3 : 2 ^ (j + 1) / 2 = 2 ^ j := by rw [Nat.pow_succ, Nat.mul_div_cancel _ (by decide)]
    have e4 : 2 ^ (j + 1) % 2 = 0 := by rw [Nat.pow_succ, Nat.mul_mod_left]
    rw [e3, h1] at e1
    rw [e4] at e2
    have e5 : 2 ^ (j + 1) = 2 * 2 ^ j := by rw [Nat.pow_succ, Nat.mul_comm]
    generalize (x ||| 2 ^ (j + 1)) = p at *
    omega

theorem or_pow_lt (x j : Nat) (hx : x < 18446744073709551616) (hj : j < 64) : x ||| 2 ^ j < 18446744073709551616 :=
  Nat.or_lt_two_pow (n := 64) hx (Nat.pow_lt_pow_right (by decide) hj)

theorem low_or (j : Nat) : (2 ^ j - 1) ||| 2 ^ j = 2 ^ (j + 1) - 1 := by
  have hp : 0 < 2 ^ j := Nat.pow_pos (by decide)
  rw [or_pow_add j _ (Nat.testBit_lt_two_pow (by omega)), Nat.pow_succ]; omega

/-! ### the list of the seats -/
theorem mem_seatsOf (x : Nat) (i : Int) : i ∈ seatsOf x ↔ 1 ≤ i ∧ i ≤ 64 ∧ x.testBit (i.toNat - 1) = true := by
  unfold seatsOf
  rw [List.mem_map]
  constructor
  · rintro ⟨a, ha, rfl⟩
    rw [List.mem_filter, List.mem_range] at ha
    exact ⟨by omega, by omega, by rw [show ((a : Int) + 1).toNat - 1 = a from by omega]; exact ha.2⟩
  · rintro ⟨h1, h2, h3⟩
    exact ⟨i.toNat - 1, by rw [List.mem_filter, List.mem_range]; exact ⟨by omega, h3⟩, by omega⟩

theorem seatsOf_sorted (x : Nat) : (seatsOf x).Pairwise (· < ·) := by
  unfold seatsOf
  rw [List.pairwise_map]
  exact ((List.pairwise_lt_range (n := 64)).filter _).imp (fun h => by omega)

theorem lt_pow_iff (x n : Nat) (hx : x < 18446744073709551616) : x < 2 ^ n ↔ ∀ i ∈ seatsOf x, i ≤ (n : Int) := by
  constructor
  · intro h i hi
    obtain ⟨h1, h2, h3⟩ := (mem_seatsOf x i).1 hi
    rcases Nat.lt_or_ge (i.toNat - 1) n with hl | hl
    · omega
    · have := Nat.testBit_lt_two_pow (Nat.lt_of_lt_of_le h (Nat.pow_le_pow_right (by decide : 0 < 2) hl))
      rw [this] at h3; cases h3
  · intro h
    apply Nat.lt_pow_two_of_testBit
    intro i hi
    rcases Nat.lt_or_ge i 64 with hl | hl
    · cases hb : x.testBit i with
      | false => rfl
      | true =>
        have := h ((i : Int) + 1) ((mem_seatsOf x _).2 ⟨by omega, by omega, by rw [show ((i : Int) + 1).toNat - 1 = i from by omega]; exact hb⟩)
        omega
    · exact Nat.testBit_lt_two_pow (Nat.lt_of_lt_of_le hx (Nat.pow_le_pow_right (by decide : 0 < 2) hl))

end Go.Proofs.YtcbehldoocfiiaaDoor
