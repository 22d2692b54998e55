/- What the functions of the seats come to, in closed form: committees, sets of seats, their numbers. Conditions: numbers of their kinds (a set: below 2^64). -/
import Derived.Laws.Bits64b
import Derived.Test.YtcbehldoocfiiaaDoorSets
import Derived.Test.YtcbehldoocfiiaaDoorQ5
import Derived.Test.YtcbehldoocfiiaaDoorQ4
import Derived.Test.YtcbehldoocfiiaaDoorQ3
import Derived.Test.YtcbehldoocfiiaaDoorQ2
import Derived.Test.YtcbehldoocfiiaaDoorQ1
namespace Go.Proofs.YtcbehldoocfiiaaDoor.Pure
open Go.RowKit Go.Proofs.YtcbehldoocfiiaaDoor.Q Go.Proofs.YtcbehldoocfiiaaDoorW.PrintWords Go.Proofs.YtcbehldoocfiiaaDoorW.PrintLast Go.Proofs.YtcbehldoocfiiaaDoorW.PrintMore

/-- A uint64 is a natural number below 2^64. -/
theorem u64_nat {a : Int} (h : (Lit.int .u64 a).wf = true) : ∃ x : Nat, a = x ∧ x < 18446744073709551616 := by
  have hb : 0 ≤ a ∧ a < 18446744073709551616 := by
    simp [Lit.wf, IntKind.min, IntKind.max, IntKind.signed, IntKind.bits] at h; omega
  exact ⟨a.toNat, by omega, by omega⟩
theorem i64_bd {a : Int} (h : (Lit.int .i64 a).wf = true) : -9223372036854775808 ≤ a ∧ a < 9223372036854775808 := by
  simp [Lit.wf, IntKind.min, IntKind.max, IntKind.signed, IntKind.bits] at h; omega

theorem wrap_small {a : Int} (h0 : -9223372036854775808 ≤ a) (h1 : a < 9223372036854775808) : wrap64 a = a := by unfold wrap64; omega

/-! ### committees -/
def mayB (n : Int) : Bool := decide (4 ≤ n ∧ n ≤ 64 ∧ n % 3 = 1)

theorem may_f (n : Int) : seats_May.f n = some (mayB n) := by
  unfold seats_May.f mayB
  by_cases h1 : n ≥ 4
  · rw [if_pos h1]
    by_cases h2 : n ≤ 64
    · rw [if_pos h2, Int.tmod_eq_emod_of_nonneg (by omega)]
      congr 1
      rw [Bool.eq_iff_iff, beq_iff_eq, decide_eq_true_iff]
      omega
    · rw [if_neg h2]; congr 1; symm; rw [decide_eq_false_iff_not]; omega
  · rw [if_neg h1]; congr 1; symm; rw [decide_eq_false_iff_not]; omega

theorem mayB_true {n : Int} (h : mayB n = true) : 4 ≤ n ∧ n ≤ 64 ∧ n % 3 = 1 := of_decide_eq_true h

theorem third {n : Int} (h : mayB n = true) : wrap64 (Int.tdiv (wrap64 (n - 1)) 3) = (n - 1) / 3 := by
  have := mayB_true h
  rw [wrap_small (a := n - 1) (by omega) (by omega), Int.tdiv_eq_ediv_of_nonneg (by omega), wrap_small (by omega) (by omega)]

theorem faults_f (n : Int) : seats_Faults.f n = some (if mayB n = true then (n - 1) / 3 else 0) := by
  unfold seats_Faults.f
  rw [may_f]; simp only [Option.bind_some]
  split
  · rename_i h; rw [third h]
  · rfl

theorem quorum_f (n : Int) : seats_Quorum.f n = some (if mayB n = true then n - (n - 1) / 3 else 0) := by
  unfold seats_Quorum.f
  rw [may_f, faults_f]; simp only [Option.bind_some]
  split
  · rename_i h
    have := mayB_true h
    rw [wrap_small (by omega) (by omega)]
  · rfl

theorem weak_f (n : Int) : seats_Weak.f n = some (if mayB n = true then (n - 1) / 3 + 1 else 0) := by
  unfold seats_Weak.f
  rw [may_f, faults_f]; simp only [Option.bind_some]
  split
  · rename_i h
    have := mayB_true h
    rw [wrap_small (by omega) (by omega)]
  · rfl

theorem refMay_f (n : Int) : selvedgeref05_May.f n = some (mayB n) := by
  unfold selvedgeref05_May.f mayB
  by_cases h0 : n = 4
  · subst h0; rfl
  · rw [if_neg h0]
    by_cases h1 : n > 4
    · rw [if_pos h1]
      by_cases h2 : n ≤ 64
      · rw [if_pos h2, wrap_small (by omega) (by omega), Int.tmod_eq_emod_of_nonneg (by omega)]
        congr 1
        rw [Bool.eq_iff_iff, beq_iff_eq, decide_eq_true_iff]
        omega
      · rw [if_neg h2]; congr 1; symm; rw [decide_eq_false_iff_not]; omega
    · rw [if_neg h1]; congr 1; symm; rw [decide_eq_false_iff_not]; omega

theorem refFaults_f (n : Int) : selvedgeref05_Faults.f n = some (if mayB n = true then (n - 1) / 3 else 0) := by
  unfold selvedgeref05_Faults.f
  rw [refMay_f]; simp only [Option.bind_some]
  split
  · rename_i h; rw [third h]
  · rfl

theorem refQuorum_f (n : Int) : selvedgeref05_Quorum.f n = some (if mayB n = true then n - (n - 1) / 3 else 0) := by
  unfold selvedgeref05_Quorum.f
  rw [refMay_f]; simp only [Option.bind_some]
  split
  · rename_i h
    have := mayB_true h
    rw [third h, wrap_small (by omega) (by omega)]
  · rfl

theorem refWeak_f (n : Int) : selvedgeref05_Weak.f n = some (if mayB n = true then (n - 1) / 3 + 1 else 0) := by
  unfold selvedgeref05_Weak.f
  rw [refMay_f]; simp only [Option.bind_some]
  split
  · rename_i h
    have := mayB_true h
    rw [third h, wrap_small (by omega) (by omega)]
  · rfl

/-! ### sets -/
theorem and_u64 {a b : Int} (x y : Nat) (ha : a = x) (hb : b = y) (hx : x < 18446744073709551616) (hy : y < 18446744073709551616) : Go.bits .and .u64 a b = ((x &&& y : Nat) : Int) := by
  rw [ha, hb, bits_and_u64_nat x y hx hy]
theorem or_u64 {a b : Int} (x y : Nat) (ha : a = x) (hb : b = y) (hx : x < 18446744073709551616) (hy : y < 18446744073709551616) : Go.bits .or .u64 a b = ((x ||| y : Nat) : Int) := by
  rw [ha, hb, bits_or_u64_nat x y hx hy]

theorem and_i64_127 (x : Nat) (hx : x < 9223372036854775808) : Go.bits .and .i64 (x : Int) 127 = ((x % 128 : Nat) : Int) := by
  have h1 : (BitVec.ofInt 64 (x : Int)).toNat = x := by
    rw [BitVec.ofInt_natCast, BitVec.toNat_ofNat]; exact Nat.mod_eq_of_lt (by omega)
  show IntKind.i64.wrap ((BitVec.ofInt 64 (x : Int) &&& BitVec.ofInt 64 127).toNat : Int) = _
  rw [BitVec.toNat_and, h1, show (BitVec.ofInt 64 127).toNat = 2 ^ 7 - 1 from rfl, Nat.and_two_pow_sub_one_eq_mod, IntKind.wrap_i64]
  omega

theorem seat_f (i : Int) : seats_seat.f i = some (decide (1 ≤ i ∧ i ≤ 64)) := by
  unfold seats_seat.f
  by_cases h : i ≥ 1
  · rw [if_pos h]; congr 1; rw [Bool.eq_iff_iff, decide_eq_true_iff, decide_eq_true_iff]; omega
  · rw [if_neg h]; congr 1; symm; rw [decide_eq_false_iff_not]; omega

theorem put_no (x : Nat) (i : Int) (h : ¬ (1 ≤ i ∧ i ≤ 64)) : seats_Put.f x i = some (0, 1) := by
  unfold seats_Put.f
  rw [seat_f]; simp only [Option.bind_some]
  rw [if_neg (by rw [decide_eq_true_iff]; exact h)]

theorem shl_one (j : Nat) (hj : j < 64) : shl .u64 1 (j : Int) = ((2 ^ j : Nat) : Int) := by
  have hp : 2 ^ j < 2 ^ 64 := Nat.pow_lt_pow_right (by decide) hj
  unfold shl
  rw [Int.toNat_natCast, Nat.min_eq_left (show j ≤ IntKind.u64.bits by show j ≤ 64; omega), IntKind.wrap_u64, Int.one_mul]
  rw [Int.natCast_pow]
  rw [Int.emod_eq_of_lt (by exact_mod_cast Nat.zero_le (2 ^ j))]
  · rfl
  · have : ((2 ^ j : Nat) : Int) < ((2 ^ 64 : Nat) : Int) := by exact_mod_cast hp
    simpa using this

theorem put_f (x : Nat) (hx : x < 18446744073709551616) (i : Int) (h1 : 1 ≤ i) (h2 : i ≤ 64) : seats_Put.f x i = some (((x ||| 2 ^ (i.toNat - 1) : Nat) : Int), 0) := by
  obtain ⟨j, rfl⟩ : ∃ j : Nat, i = (j : Int) + 1 := ⟨(i - 1).toNat, by omega⟩
  have hj : j < 64 := by omega
  have hp : 2 ^ j < 2 ^ 64 := Nat.pow_lt_pow_right (by decide) hj
  unfold seats_Put.f
  rw [seat_f]; simp only [Option.bind_some]
  rw [if_pos (by rw [decide_eq_true_iff]; omega), wrap_small (by omega) (by omega), if_pos (by omega), show (j : Int) + 1 - 1 = (j : Int) from by omega, shl_one j hj,
    or_u64 x (2 ^ j) rfl rfl hx (by omega), show ((j : Int) + 1).toNat - 1 = j from by omega]

theorem has_no (x : Nat) (i : Int) (h : ¬ (1 ≤ i ∧ i ≤ 64)) : seats_Has.f x i = some false := by
  unfold seats_Has.f
  rw [seat_f]; simp only [Option.bind_some]
  rw [if_neg (by rw [decide_eq_true_iff]; exact h)]

theorem shr_nat (x j : Nat) (hj : j ≤ 64) : shr .u64 (x : Int) (j : Int) = ((x / 2 ^ j : Nat) : Int) := by
  unfold shr
  rw [Int.toNat_natCast, Nat.min_eq_left (show j ≤ IntKind.u64.bits from hj)]
  rw [Int.natCast_ediv, Int.natCast_pow]; rfl

theorem has_f (x : Nat) (hx : x < 18446744073709551616) (i : Int) (h1 : 1 ≤ i) (h2 : i ≤ 64) : seats_Has.f x i = some (x.testBit (i.toNat - 1)) := by
  obtain ⟨j, rfl⟩ : ∃ j : Nat, i = (j : Int) + 1 := ⟨(i - 1).toNat, by omega⟩
  have hj : j < 64 := by omega
  unfold seats_Has.f
  rw [seat_f]; simp only [Option.bind_some]
  rw [if_pos (by rw [decide_eq_true_iff]; omega), wrap_small (by omega) (by omega), if_pos (by omega), show (j : Int) + 1 - 1 = (j : Int) from by omega, shr_nat x j (by omega),
    and_u64 (b := 1) (x / 2 ^ j) 1 rfl rfl (Nat.lt_of_le_of_lt (Nat.div_le_self _ _) hx) (by omega), show ((j : Int) + 1).toNat - 1 = j from by omega]
  congr 1
  rw [Nat.and_one_is_mod, Nat.testBit, Nat.shiftRight_eq_div_pow, Nat.and_comm, Nat.and_one_is_mod, Bool.eq_iff_iff, beq_iff_eq, bne_iff_ne]
  omega

def stage1 (t : Int) : Int := IntKind.u64.wrap (Go.bits .and .u64 (t / 2) 6148914691236517205 + Go.bits .and .u64 t 6148914691236517205)
def stage2 (t : Int) : Int := IntKind.u64.wrap (Go.bits .and .u64 (t / 4) 3689348814741910323 + Go.bits .and .u64 t 3689348814741910323)
def stage3 (t : Int) : Int := Go.bits .and .u64 (IntKind.u64.wrap (t / 16 + t)) 1085102592571150095
def stage4 (t : Int) : Int := IntKind.u64.wrap (t + t / 256)
def stage5 (t : Int) : Int := IntKind.u64.wrap (t + t / 65536)
def stage6 (t : Int) : Int := IntKind.u64.wrap (t + t / 4294967296)

theorem ones_stages (a : Int) : bits_OnesCount64.f a = some (Go.bits .and .i64 (wrap64 (stage6 (stage5 (stage4 (stage3 (stage2 (stage1 a))))))) 127) := rfl

theorem wrap_nat {a : Int} (x : Nat) (h : a = x) (hx : x < 18446744073709551616) : IntKind.u64.wrap a = x := by rw [h, IntKind.wrap_u64]; omega

theorem stage1_nat (x : Nat) (hx : x < 18446744073709551616) (h : (x / 2 &&& 6148914691236517205) + (x &&& 6148914691236517205) < 18446744073709551616) : stage1 x = (((x / 2 &&& 6148914691236517205) + (x &&& 6148914691236517205) : Nat) : Int) := by
  unfold stage1
  rw [and_u64 (b := 6148914691236517205) (x / 2) 6148914691236517205 (by omega) rfl (by omega) (by omega), and_u64 (b := 6148914691236517205) x 6148914691236517205 rfl rfl hx (by omega)]
  exact wrap_nat _ (by rw [Int.natCast_add]) h

theorem stage2_nat (x : Nat) (hx : x < 18446744073709551616) (h : (x / 4 &&& 3689348814741910323) + (x &&& 3689348814741910323) < 18446744073709551616) : stage2 x = (((x / 4 &&& 3689348814741910323) + (x &&& 3689348814741910323) : Nat) : Int) := by
  unfold stage2
  rw [and_u64 (b := 3689348814741910323) (x / 4) 3689348814741910323 (by omega) rfl (by omega) (by omega), and_u64 (b := 3689348814741910323) x 3689348814741910323 rfl rfl hx (by omega)]
  exact wrap_nat _ (by rw [Int.natCast_add]) h

theorem stage3_nat (x : Nat) (h : x / 16 + x < 18446744073709551616) : stage3 x = ((((x / 16 + x) &&& 1085102592571150095) : Nat) : Int) := by
  unfold stage3
  exact and_u64 (b := 1085102592571150095) (x / 16 + x) 1085102592571150095 (wrap_nat _ (by omega) h) rfl h (by omega)

theorem val8_lt (a b c d e f g i : Nat) (h1 : a < 256) (h2 : b < 256) (h3 : c < 256) (h4 : d < 256) (h5 : e < 256) (h6 : f < 256) (h7 : g < 256) (h8 : i < 256) : val8 a b c d e f g i < 18446744073709551616 := by
  unfold val8; omega
theorem val8_lt2 (a b c d e f g i : Nat) (h1 : a / 16 ≤ 4) (h2 : b / 16 ≤ 4) (h3 : c / 16 ≤ 4) (h4 : d / 16 ≤ 4) (h5 : e / 16 ≤ 4) (h6 : f / 16 ≤ 4) (h7 : g / 16 ≤ 4) (h8 : i / 16 ≤ 4) : val8 a b c d e f g i < 9223372036854775808 := by
  unfold val8; omega

theorem tail_sum (p q r s t u v w : Nat) (hp : p ≤ 8) (hq : q ≤ 8) (hr : r ≤ 8) (hs : s ≤ 8) (ht : t ≤ 8) (hu : u ≤ 8) (hv : v ≤ 8) (hw : w ≤ 8) :
    Go.bits .and .i64 (wrap64 (stage6 (stage5 (stage4 ((val8 p q r s t u v w : Nat) : Int))))) 127 = ((p + q + r + s + t + u + v + w : Nat) : Int) := by
  obtain ⟨X, hX⟩ : ∃ X, X = val8 p q r s t u v w := ⟨_, rfl⟩
  have hx0 : X ≤ 8 * 72340172838076673 := by rw [hX]; unfold val8; omega
  have hst := steps p q r s t u v w hp hq hr hs ht hu hv hw X hX (X + X / 256) rfl (X + X / 256 + (X + X / 256) / 65536) rfl
  rw [← hX]
  clear hX
  have e4 : stage4 (X : Int) = ((X + X / 256 : Nat) : Int) := wrap_nat _ (by omega) (by omega)
  rw [e4]
  have e5 : stage5 ((X + X / 256 : Nat) : Int) = ((X + X / 256 + (X + X / 256) / 65536 : Nat) : Int) := wrap_nat _ (by omega) (by omega)
  rw [e5]
  have hz : X + X / 256 + (X + X / 256) / 65536 < 2 * 8 * 72340172838076673 := by omega
  generalize X + X / 256 + (X + X / 256) / 65536 = Z at *
  have e6 : stage6 (Z : Int) = ((Z + Z / 4294967296 : Nat) : Int) := wrap_nat _ (by omega) (by omega)
  have e7 : Z + Z / 4294967296 < 9223372036854775808 := by omega
  rw [e6, wrap_small (by omega) (by omega), and_i64_127 _ e7, hst.1]

theorem stage_eq {z : Int} {u v : Nat} (h : u < 18446744073709551616 → z = (u : Int)) (he : u = v) (hv : v < 18446744073709551616) : z = (v : Int) := by
  rw [← he]; exact h (by rw [he]; exact hv)
theorem le63 : 9223372036854775808 ≤ 18446744073709551616 := by decide

theorem ones_f (x : Nat) (hx : x < 18446744073709551616) : bits_OnesCount64.f x = some ((cnt 64 x : Nat) : Int) := by
  obtain ⟨a, b, c, d, e, f, g, i, ha, hb, hc, hd, he, hf, hg, hi, hv, hcnt⟩ := val8_of x hx
  obtain ⟨a0, a1, a2, a3⟩ := byte_facts a ha
  obtain ⟨b0, b1, b2, b3⟩ := byte_facts b hb
  obtain ⟨c0, c1, c2, c3⟩ := byte_facts c hc
  obtain ⟨d0, d1, d2, d3⟩ := byte_facts d hd
  obtain ⟨e0, e1', e2', e3'⟩ := byte_facts e he
  obtain ⟨f0, f1, f2, f3⟩ := byte_facts f hf
  obtain ⟨g0, g1, g2, g3⟩ := byte_facts g hg
  obtain ⟨i0, i1, i2, i3⟩ := byte_facts i hi
  have h1 := step1 a b c d e f g i ha hb hc hd he hf hg
  have h2 := step2 (s1 a) (s1 b) (s1 c) (s1 d) (s1 e) (s1 f) (s1 g) (s1 i) a0 b0 c0 d0 e0 f0 g0
  have h3 := step3 (s2 (s1 a)) (s2 (s1 b)) (s2 (s1 c)) (s2 (s1 d)) (s2 (s1 e)) (s2 (s1 f)) (s2 (s1 g)) (s2 (s1 i)) ⟨a1, a2⟩ ⟨b1, b2⟩ ⟨c1, c2⟩ ⟨d1, d2⟩ ⟨e1', e2'⟩ ⟨f1, f2⟩ ⟨g1, g2⟩ ⟨i1, i2⟩
  have l1 := val8_lt (s1 a) (s1 b) (s1 c) (s1 d) (s1 e) (s1 f) (s1 g) (s1 i) a0 b0 c0 d0 e0 f0 g0 i0
  have l2 := val8_lt2 (s2 (s1 a)) (s2 (s1 b)) (s2 (s1 c)) (s2 (s1 d)) (s2 (s1 e)) (s2 (s1 f)) (s2 (s1 g)) (s2 (s1 i)) a1 b1 c1 d1 e1' f1 g1 i1
  have l3 : val8 (s2 (s1 a)) (s2 (s1 b)) (s2 (s1 c)) (s2 (s1 d)) (s2 (s1 e)) (s2 (s1 f)) (s2 (s1 g)) (s2 (s1 i)) / 16 + val8 (s2 (s1 a)) (s2 (s1 b)) (s2 (s1 c)) (s2 (s1 d)) (s2 (s1 e)) (s2 (s1 f)) (s2 (s1 g)) (s2 (s1 i)) < 18446744073709551616 := by
    clear h1 h2 h3
    generalize val8 (s2 (s1 a)) (s2 (s1 b)) (s2 (s1 c)) (s2 (s1 d)) (s2 (s1 e)) (s2 (s1 f)) (s2 (s1 g)) (s2 (s1 i)) = Y at *
    omega
  rw [← hv] at h1
  have e1 : stage1 (x : Int) = ((val8 (s1 a) (s1 b) (s1 c) (s1 d) (s1 e) (s1 f) (s1 g) (s1 i) : Nat) : Int) := stage_eq (stage1_nat x hx) h1 l1
  have e2 := stage_eq (stage2_nat _ l1) h2 (Nat.lt_of_lt_of_le l2 le63)
  have e3 := stage_eq (fun _ => stage3_nat _ l3) h3 (Nat.lt_of_le_of_lt (Nat.le_of_eq h3.symm) (Nat.lt_of_le_of_lt Nat.and_le_left l3))
  rw [a3, b3, c3, d3, e3', f3, g3, i3] at e3
  rw [ones_stages, e1, e2, e3, hcnt]
  clear h1 h2 h3 l1 l2 l3 hcnt hv e1 e2 e3
  rw [tail_sum _ _ _ _ _ _ _ _ (by omega) (by omega) (by omega) (by omega) (by omega) (by omega) (by omega) (by omega)]

theorem count_f (x : Nat) (hx : x < 18446744073709551616) : seats_Count.f x = some (((seatsOf x).length : Nat) : Int) := by
  unfold seats_Count.f
  rw [ones_f x hx, seatsOf_length]; rfl

theorem within_no (x : Nat) (n : Int) (h : ¬ (0 ≤ n ∧ n ≤ 64)) : seats_Within.f x n = some false := by
  unfold seats_Within.f
  by_cases h1 : n < 0
  · rw [if_pos h1]
  · rw [if_neg h1, if_pos (by omega)]

theorem within_f (x : Nat) (n : Nat) (hn : n ≤ 64) : seats_Within.f x n = some (decide (x < 2 ^ n)) := by
  unfold seats_Within.f
  rw [if_neg (by omega), if_neg (by omega)]
  cases n with
  | zero =>
    have e : mx (wrap64 (((0 : Nat) : Int) - 1)) 0 = ((0 : Nat) : Int) := by rw [wrap_small (by omega) (by omega)]; unfold mx; rw [if_pos (by omega)]; rfl
    rw [e, show (x : Int) / 2 = ((x / 2 : Nat) : Int) from by omega, shr_nat _ 0 (by omega), Nat.pow_zero, Nat.div_one]
    by_cases h : x / 2 = 0
    · rw [if_pos (by omega), if_neg (by omega)]
      congr 1
      rw [Bool.eq_iff_iff, beq_iff_eq, decide_eq_true_iff]; omega
    · rw [if_neg (by omega)]; congr 1; symm; rw [decide_eq_false_iff_not]; omega
  | succ n =>
    have e : mx (wrap64 (((n + 1 : Nat) : Int) - 1)) 0 = (n : Int) := by
      rw [wrap_small (by omega) (by omega)]; unfold mx; rw [if_neg (by omega)]; omega
    rw [e, show (x : Int) / 2 = ((x / 2 : Nat) : Int) from by omega, shr_nat _ n (by omega), Nat.div_div_eq_div_mul, show 2 * 2 ^ n = 2 ^ (n + 1) from by rw [Nat.pow_succ]; omega]
    by_cases h : x < 2 ^ (n + 1)
    · rw [Nat.div_eq_of_lt h, if_pos (show ((0 : Nat) : Int) = 0 from rfl), if_pos (by omega)]; congr 1; symm; rw [decide_eq_true_iff]; exact h
    · have : 0 < x / 2 ^ (n + 1) := Nat.div_pos (by omega) (Nat.pow_pos (by decide))
      rw [if_neg (by omega)]; congr 1; symm; rw [decide_eq_false_iff_not]; exact h

theorem shown_ev : Ev (fun k => selvedgelaw05_shown.f k) true :=
  Ev.of selvedgelaw05_shown.mono (k := 3) (by decide +kernel)

end Go.Proofs.YtcbehldoocfiiaaDoor.Pure
