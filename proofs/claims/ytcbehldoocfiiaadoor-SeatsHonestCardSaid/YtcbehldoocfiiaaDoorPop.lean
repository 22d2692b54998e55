/- Plain arithmetic: what the parallel summing of adjacent bits comes to is the number of bits that are set. Condition: the number is below 2^64. -/
import Derived.Test.YtcbehldoocfiiaaDoorBits
namespace Go.Proofs.YtcbehldoocfiiaaDoor

/-- How many of the n lowest bits are set. -/
def cnt : Nat → Nat → Nat
  | 0, _ => 0
  | n + 1, x => x % 2 + cnt n (x / 2)

theorem cnt_range (n x : Nat) : ((List.range n).filter (fun i => x.testBit i)).length = cnt n x := by
  induction n generalizing x with
  | zero => simp [cnt]
  | succ n ih =>
    rw [List.range_succ_eq_map, List.filter_cons, List.filter_map, cnt]
    have e : ((fun i => x.testBit i) ∘ Nat.succ) = fun i => (x / 2).testBit i := by
      funext i; exact Nat.testBit_succ ..
    rw [e]
    by_cases h : x.testBit 0
    · have h1 : x % 2 = 1 := by simpa [Nat.testBit_zero] using h
      rw [if_pos h, List.length_cons, List.length_map, ih, h1]; omega
    · have h1 : x % 2 = 0 := by have := h; simp [Nat.testBit_zero] at this; omega
      rw [if_neg h, List.length_map, ih, h1]; omega

theorem seatsOf_length (x : Nat) : (seatsOf x).length = cnt 64 x := by
  unfold seatsOf; rw [List.length_map]; exact cnt_range 64 x

theorem cnt_add (n m x : Nat) : cnt (n + m) x = cnt n x + cnt m (x / 2 ^ n) := by
  induction n generalizing x with
  | zero => simp [cnt]
  | succ n ih =>
    rw [show n + 1 + m = (n + m) + 1 from by omega, cnt, cnt, ih, Nat.div_div_eq_div_mul, Nat.add_assoc, show 2 * 2 ^ n = 2 ^ (n + 1) from by rw [Nat.pow_succ]; omega]

theorem cnt_mod (n x : Nat) : cnt n x = cnt n (x % 2 ^ n) := by
  induction n generalizing x with
  | zero => simp [cnt]
  | succ n ih =>
    have e1 : x % 2 ^ (n + 1) % 2 = x % 2 := Nat.mod_mod_of_dvd _ ⟨2 ^ n, by rw [Nat.pow_succ]; omega⟩
    have e2 : x % 2 ^ (n + 1) / 2 = x / 2 % 2 ^ n := by
      rw [Nat.pow_succ, Nat.mul_comm, Nat.mod_mul_right_div_self]
    rw [cnt, cnt, e1, e2, ← ih]

/-- Two numbers of bytes, 'and' byte by byte. -/
theorem and_byte (a b c d : Nat) (ha : a < 256) (hc : c < 256) : (a + 256 * b) &&& (c + 256 * d) = (a &&& c) + 256 * (b &&& d) := by
  apply Nat.eq_of_testBit_eq
  intro i
  have hac : a &&& c < 2 ^ 8 := Nat.lt_of_le_of_lt Nat.and_le_left ha
  rw [Nat.testBit_and, Nat.add_comm a, Nat.add_comm c, Nat.add_comm (a &&& c), show (256 : Nat) = 2 ^ 8 from rfl, Nat.testBit_two_pow_mul_add _ ha, Nat.testBit_two_pow_mul_add _ hc, Nat.testBit_two_pow_mul_add _ hac]
  split <;> simp [Nat.testBit_and]

def val8 (a b c d e f g h : Nat) : Nat := a + 256 * (b + 256 * (c + 256 * (d + 256 * (e + 256 * (f + 256 * (g + 256 * h))))))

theorem and_val8 (a b c d e f g h m : Nat) (ha : a < 256) (hb : b < 256) (hc : c < 256) (hd : d < 256) (he : e < 256) (hf : f < 256) (hg : g < 256) (hm : m < 256) :
    val8 a b c d e f g h &&& val8 m m m m m m m m = val8 (a &&& m) (b &&& m) (c &&& m) (d &&& m) (e &&& m) (f &&& m) (g &&& m) (h &&& m) := by
  unfold val8
  rw [and_byte _ _ _ _ ha hm, and_byte _ _ _ _ hb hm, and_byte _ _ _ _ hc hm, and_byte _ _ _ _ hd hm, and_byte _ _ _ _ he hm, and_byte _ _ _ _ hf hm, and_byte _ _ _ _ hg hm]

theorem val8_of (x : Nat) (h : x < 18446744073709551616) : ∃ a b c d e f g i, a < 256 ∧ b < 256 ∧ c < 256 ∧ d < 256 ∧ e < 256 ∧ f < 256 ∧ g < 256 ∧ i < 256 ∧ x = val8 a b c d e f g i ∧
    cnt 64 x = cnt 8 a + cnt 8 b + cnt 8 c + cnt 8 d + cnt 8 e + cnt 8 f + cnt 8 g + cnt 8 i := by
  refine ⟨x % 256, x / 256 % 256, x / 256 / 256 % 256, x / 256 / 256 / 256 % 256, x / 256 / 256 / 256 / 256 % 256, x / 256 / 256 / 256 / 256 / 256 % 256, x / 256 / 256 / 256 / 256 / 256 / 256 % 256, x / 256 / 256 / 256 / 256 / 256 / 256 / 256, by omega, by omega, by omega, by omega, by omega, by omega, by omega, by omega, by unfold val8; omega, ?_⟩
  have st : ∀ n y, cnt (8 + n) y = cnt 8 (y % 256) + cnt n (y / 256) := fun n y => by
    rw [cnt_add, cnt_mod 8 y]
  have e64 : (64 : Nat) = 8 + (8 + (8 + (8 + (8 + (8 + (8 + 8)))))) := rfl
  rw [e64, st, st, st, st, st, st, st]
  omega

def s1 (b : Nat) : Nat := (b / 2 &&& 85) + (b &&& 85)
def s2 (b : Nat) : Nat := (b / 4 &&& 51) + (b &&& 51)

theorem byte_facts : ∀ b, b < 256 → s1 b < 256 ∧ s2 (s1 b) / 16 ≤ 4 ∧ s2 (s1 b) % 16 ≤ 4 ∧ s2 (s1 b) / 16 + s2 (s1 b) % 16 = cnt 8 b := by decide +kernel

theorem and_low (a y m k : Nat) (ha : a < 256) (k8 : k ≤ 8) (hm : m < 2 ^ (8 - k)) : (a / 2 ^ k + (y % 2 ^ k) * 2 ^ (8 - k)) &&& m = a / 2 ^ k &&& m := by
  apply Nat.eq_of_testBit_eq
  intro i
  have hlt : a / 2 ^ k < 2 ^ (8 - k) := by
    rw [Nat.div_lt_iff_lt_mul (Nat.pow_pos (by decide)), ← Nat.pow_add, Nat.sub_add_cancel k8]; exact ha
  rw [Nat.testBit_and, Nat.testBit_and, Nat.add_comm, Nat.mul_comm, Nat.testBit_two_pow_mul_add _ hlt]
  split
  · rfl
  · rename_i hi
    have : m.testBit i = false := Nat.testBit_lt_two_pow (Nat.lt_of_lt_of_le hm (Nat.pow_le_pow_right (by decide) (by omega)))
    simp [this]

theorem shift_and (a b c d e f g h m k : Nat) (ha : a < 256) (hb : b < 256) (hc : c < 256) (hd : d < 256) (he : e < 256) (hf : f < 256) (hg : g < 256) (hk : k = 1 ∨ k = 2) (hm : m < 2 ^ (8 - k)) :
    val8 a b c d e f g h / 2 ^ k &&& val8 m m m m m m m m = val8 (a / 2 ^ k &&& m) (b / 2 ^ k &&& m) (c / 2 ^ k &&& m) (d / 2 ^ k &&& m) (e / 2 ^ k &&& m) (f / 2 ^ k &&& m) (g / 2 ^ k &&& m) (h / 2 ^ k &&& m) := by
  have k8 : k ≤ 8 := by omega
  have hm2 : m < 256 := by rcases hk with rfl | rfl <;> omega
  have e0 : val8 a b c d e f g h / 2 ^ k = val8 (a / 2 ^ k + (b % 2 ^ k) * 2 ^ (8 - k)) (b / 2 ^ k + (c % 2 ^ k) * 2 ^ (8 - k)) (c / 2 ^ k + (d % 2 ^ k) * 2 ^ (8 - k)) (d / 2 ^ k + (e % 2 ^ k) * 2 ^ (8 - k)) (e / 2 ^ k + (f % 2 ^ k) * 2 ^ (8 - k)) (f / 2 ^ k + (g % 2 ^ k) * 2 ^ (8 - k)) (g / 2 ^ k + (h % 2 ^ k) * 2 ^ (8 - k)) (h / 2 ^ k) := by
    unfold val8
    rcases hk with rfl | rfl <;> simp only [Nat.reducePow, Nat.reduceSub] <;> omega
  have lt : ∀ u v, u < 256 → u / 2 ^ k + (v % 2 ^ k) * 2 ^ (8 - k) < 256 := by
    intro u v hu
    rcases hk with rfl | rfl <;> simp only [Nat.reducePow, Nat.reduceSub] <;> omega
  rw [e0, and_val8 _ _ _ _ _ _ _ _ _ (lt _ _ ha) (lt _ _ hb) (lt _ _ hc) (lt _ _ hd) (lt _ _ he) (lt _ _ hf) (lt _ _ hg) hm2,
    and_low a b m k ha k8 hm, and_low b c m k hb k8 hm, and_low c d m k hc k8 hm, and_low d e m k hd k8 hm, and_low e f m k he k8 hm, and_low f g m k hf k8 hm, and_low g h m k hg k8 hm]

theorem val8_add (a b c d e f g h a' b' c' d' e' f' g' h' : Nat) : val8 a b c d e f g h + val8 a' b' c' d' e' f' g' h' = val8 (a + a') (b + b') (c + c') (d + d') (e + e') (f + f') (g + g') (h + h') := by
  unfold val8; omega

theorem step1 (a b c d e f g h : Nat) (ha : a < 256) (hb : b < 256) (hc : c < 256) (hd : d < 256) (he : e < 256) (hf : f < 256) (hg : g < 256) :
    (val8 a b c d e f g h / 2 &&& 6148914691236517205) + (val8 a b c d e f g h &&& 6148914691236517205) = val8 (s1 a) (s1 b) (s1 c) (s1 d) (s1 e) (s1 f) (s1 g) (s1 h) := by
  have em : 6148914691236517205 = val8 85 85 85 85 85 85 85 85 := by decide +kernel
  have h1 := shift_and a b c d e f g h 85 1 ha hb hc hd he hf hg (.inl rfl) (by decide)
  rw [em, show (2 : Nat) = 2 ^ 1 from rfl, h1, and_val8 _ _ _ _ _ _ _ _ _ ha hb hc hd he hf hg (by decide), val8_add]
  rfl

theorem step2 (a b c d e f g h : Nat) (ha : a < 256) (hb : b < 256) (hc : c < 256) (hd : d < 256) (he : e < 256) (hf : f < 256) (hg : g < 256) :
    (val8 a b c d e f g h / 4 &&& 3689348814741910323) + (val8 a b c d e f g h &&& 3689348814741910323) = val8 (s2 a) (s2 b) (s2 c) (s2 d) (s2 e) (s2 f) (s2 g) (s2 h) := by
  have em : 3689348814741910323 = val8 51 51 51 51 51 51 51 51 := by decide +kernel
  have h1 := shift_and a b c d e f g h 51 2 ha hb hc hd he hf hg (.inr rfl) (by decide)
  rw [em, show (4 : Nat) = 2 ^ 2 from rfl, h1, and_val8 _ _ _ _ _ _ _ _ _ ha hb hc hd he hf hg (by decide), val8_add]
  rfl

theorem and15 (x : Nat) : x &&& 15 = x % 16 := Nat.and_two_pow_sub_one_eq_mod x 4

theorem step3 (a b c d e f g h : Nat) (ha : a / 16 ≤ 4 ∧ a % 16 ≤ 4) (hb : b / 16 ≤ 4 ∧ b % 16 ≤ 4) (hc : c / 16 ≤ 4 ∧ c % 16 ≤ 4) (hd : d / 16 ≤ 4 ∧ d % 16 ≤ 4) (he : e / 16 ≤ 4 ∧ e % 16 ≤ 4) (hf : f / 16 ≤ 4 ∧ f % 16 ≤ 4) (hg : g / 16 ≤ 4 ∧ g % 16 ≤ 4) (hh : h / 16 ≤ 4 ∧ h % 16 ≤ 4) :
    (val8 a b c d e f g h / 16 + val8 a b c d e f g h) &&& 1085102592571150095 = val8 (a / 16 + a % 16) (b / 16 + b % 16) (c / 16 + c % 16) (d / 16 + d % 16) (e / 16 + e % 16) (f / 16 + f % 16) (g / 16 + g % 16) (h / 16 + h % 16) := by
  have em : 1085102592571150095 = val8 15 15 15 15 15 15 15 15 := by decide +kernel
  have e0 : val8 a b c d e f g h / 16 + val8 a b c d e f g h = val8 (a / 16 + 16 * (b % 16) + a) (b / 16 + 16 * (c % 16) + b) (c / 16 + 16 * (d % 16) + c) (d / 16 + 16 * (e % 16) + d) (e / 16 + 16 * (f % 16) + e) (f / 16 + 16 * (g % 16) + f) (g / 16 + 16 * (h % 16) + g) (h / 16 + h) := by
    unfold val8; omega
  rw [em, e0, and_val8 _ _ _ _ _ _ _ _ _ (by omega) (by omega) (by omega) (by omega) (by omega) (by omega) (by omega) (by decide)]
  simp only [and15]
  congr 1 <;> omega

theorem steps (p q r s t u v w : Nat) (hp : p ≤ 8) (hq : q ≤ 8) (hr : r ≤ 8) (hs : s ≤ 8) (ht : t ≤ 8) (hu : u ≤ 8) (hv : v ≤ 8) (hw : w ≤ 8) :
    ∀ x, x = val8 p q r s t u v w → ∀ y, y = x + x / 256 → ∀ z, z = y + y / 65536 → (z + z / 4294967296) % 128 = p + q + r + s + t + u + v + w ∧ z + z / 4294967296 < 18446744073709551616 := by
  intro x hx y hy z hz
  unfold val8 at hx
  have h1 : x / 256 = q + 256 * (r + 256 * (s + 256 * (t + 256 * (u + 256 * (v + 256 * w))))) := by omega
  have h2 : y = (p + q) + 256 * ((q + r) + 256 * ((r + s) + 256 * ((s + t) + 256 * ((t + u) + 256 * ((u + v) + 256 * ((v + w) + 256 * w)))))) := by omega
  clear hy h1 hx
  have h3 : y / 65536 = (r + s) + 256 * ((s + t) + 256 * ((t + u) + 256 * ((u + v) + 256 * ((v + w) + 256 * w)))) := by omega
  have h4 : z = (p + q + r + s) + 256 * ((q + r + s + t) + 256 * ((r + s + t + u) + 256 * ((s + t + u + v) + 256 * ((t + u + v + w) + 256 * ((u + v + w) + 256 * ((v + w) + 256 * w)))))) := by omega
  clear hz h3 h2
  have h5 : z / 4294967296 = (t + u + v + w) + 256 * ((u + v + w) + 256 * ((v + w) + 256 * w)) := by omega
  rw [h5]
  clear h5
  subst h4
  refine ⟨?_, by omega⟩
  generalize hA : (q + r + s + t) + 256 * ((r + s + t + u) + 256 * ((s + t + u + v) + 256 * ((t + u + v + w) + 256 * ((u + v + w) + 256 * ((v + w) + 256 * w))))) = A
  generalize hB : (u + v + w) + 256 * ((v + w) + 256 * w) = B
  omega

end Go.Proofs.YtcbehldoocfiiaaDoor
