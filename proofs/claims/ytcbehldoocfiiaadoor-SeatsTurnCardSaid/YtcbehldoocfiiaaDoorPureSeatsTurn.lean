/- SeatsTurn: what the law comes to is true at every set. -/
import Derived.Test.YtcbehldoocfiiaaDoorPure0
namespace Go.Proofs.YtcbehldoocfiiaaDoor.Pure
open Go.RowKit Go.Proofs.YtcbehldoocfiiaaDoor.Q Go.Proofs.YtcbehldoocfiiaaDoorW.PrintWords Go.Proofs.YtcbehldoocfiiaaDoorW.PrintLast Go.Proofs.YtcbehldoocfiiaaDoorW.PrintMore

/-- What putting in the seats of a list one by one comes to. -/
def putAll : Nat → List Int → Nat
  | x, [] => x
  | x, i :: t => putAll (x ||| 2 ^ (i.toNat - 1)) t

theorem rd_eq (l : List Int) (i : Nat) (h : i < l.length) : rd l (i : Int) = l[i] := by
  unfold rd
  rw [Int.toNat_natCast, List.getD_eq_getElem?_getD, List.getElem?_eq_getElem h]; rfl

theorem of_loop (l : List Int) (hl : l.length ≤ 64) (hs : ∀ i ∈ l, 1 ≤ i ∧ i ≤ 64) (d : Nat) : ∀ (j x : Nat), j ≤ l.length → l.length - j = d → x < 18446744073709551616 →
    Ev (fun k => seats_Of.l0 k x l (l.length : Int) (j : Int)) (((putAll x (l.drop j) : Nat) : Int), 0) := by
  induction d with
  | zero =>
    intro j x hj hd hx
    refine Ev.step (f := fun _ => some _) (fun k => ?_) (Ev.now _)
    simp only [seats_Of.l0]
    rw [if_neg (by omega), List.drop_eq_nil_of_le (by omega)]
    rfl
  | succ d ih =>
    intro j x hj hd hx
    have hlt : j < l.length := by omega
    obtain ⟨s1, s2⟩ := hs l[j] (List.getElem_mem hlt)
    have hor := or_pow_lt x (l[j].toNat - 1) hx (by omega)
    rw [List.drop_eq_getElem_cons hlt]
    refine Ev.step (fun k => ?_) (ih (j + 1) _ (by omega) (by omega) hor)
    simp only [seats_Of.l0]
    rw [if_pos (by omega), if_pos (by omega), if_pos (by omega), rd_eq l j hlt, put_f x hx _ s1 s2, wrap_small (by omega) (by omega)]
    rfl

/-- The bits that a list brings. -/
theorem putAll_testBit (l : List Int) (hs : ∀ i ∈ l, 1 ≤ i ∧ i ≤ 64) (x b : Nat) : (putAll x l).testBit b = (x.testBit b || decide (((b : Int) + 1) ∈ l)) := by
  induction l generalizing x with
  | nil => simp [putAll]
  | cons i t ih =>
    rw [putAll, ih (fun i hi => hs i (List.mem_cons_of_mem _ hi)), Nat.testBit_or, Nat.testBit_two_pow, Bool.or_assoc]
    congr 1
    have := hs i List.mem_cons_self
    rw [Bool.eq_iff_iff, Bool.or_eq_true, decide_eq_true_iff, decide_eq_true_iff, decide_eq_true_iff, List.mem_cons]
    constructor
    · rintro (h | h)
      · left; omega
      · right; exact h
    · rintro (h | h)
      · left; omega
      · right; exact h

theorem putAll_seatsOf (x : Nat) (hx : x < 18446744073709551616) : putAll 0 (seatsOf x) = x := by
  apply Nat.eq_of_testBit_eq
  intro b
  rw [putAll_testBit _ (fun i hi => ⟨((mem_seatsOf x i).1 hi).1, ((mem_seatsOf x i).1 hi).2.1⟩), Nat.zero_testBit, Bool.false_or, Bool.eq_iff_iff, decide_eq_true_iff, mem_seatsOf]
  constructor
  · rintro ⟨_, _, h⟩
    rw [show ((b : Int) + 1).toNat - 1 = b from by omega] at h; exact h
  · intro h
    have hb : b < 64 := by
      rcases Nat.lt_or_ge b 64 with hl | hl
      · exact hl
      · have := Nat.testBit_lt_two_pow (Nat.lt_of_lt_of_le hx (Nat.pow_le_pow_right (by decide : 0 < 2) hl)); rw [this] at h; cases h
    exact ⟨by omega, by omega, by rw [show ((b : Int) + 1).toNat - 1 = b from by omega]; exact h⟩

theorem turn_loop (x : Nat) (hx : x < 18446744073709551616) (d : Nat) : ∀ j : Nat, j ≤ (seatsOf x).length → (seatsOf x).length - j = d →
    Ev (fun k => selvedgelaw05_SeatsTurn.l0 k x true (seatsOf x) x 0 (j : Int)) true := by
  have hlen := seatsOf_length_le x
  induction d with
  | zero =>
    intro j hj hd
    refine Ev.step (f := fun _ => some true) (fun k => ?_) (Ev.now true)
    simp only [selvedgelaw05_SeatsTurn.l0]
    rw [if_neg (by omega), if_pos trivial, if_pos trivial, if_pos trivial, count_f x hx]
    simp only [Option.bind_some]
    rw [if_pos trivial, show (64 : Int) = ((64 : Nat) : Int) from rfl, within_f x 64 (by omega), decide_eq_true (show x < 2 ^ 64 from hx)]
    rfl
  | succ d ih =>
    intro j hj hd
    have hlt : j < (seatsOf x).length := by omega
    obtain ⟨s1, s2, s3⟩ := (mem_seatsOf x _).1 (List.getElem_mem hlt)
    refine Ev.step (fun k => ?_) (ih (j + 1) (by omega) (by omega))
    simp only [selvedgelaw05_SeatsTurn.l0]
    rw [if_pos (by omega), if_pos (by omega), rd_eq _ j hlt, has_f x hx _ s1 s2, s3]
    simp only [Option.bind_some, if_true]
    rw [wrap_small (a := (j : Int) + 1) (by omega) (by omega), show ((j : Int) + 1) = ((j + 1 : Nat) : Int) from rfl]
    by_cases h0 : (j : Int) > 0
    · rw [if_pos h0, wrap_small (by omega) (by omega), if_pos (by omega), if_pos (by omega), show (j : Int) - 1 = ((j - 1 : Nat) : Int) from by omega, rd_eq _ (j - 1) (by omega)]
      have := List.pairwise_iff_getElem.1 (seatsOf_sorted x) (j - 1) j (by omega) hlt (by omega)
      rw [if_neg (by omega)]
    · rw [if_neg h0]

theorem SeatsTurn (a : Int) (ha : (Lit.int .u64 a).wf = true) : ∃ k, selvedgelaw05_SeatsTurn.f k a = some true := by
  obtain ⟨x, rfl, hx⟩ := u64_nat ha
  refine Ev.rounds (g := fun k => selvedgelaw05_SeatsTurn.f k x) ?_
  unfold selvedgelaw05_SeatsTurn.f
  refine Ev.bind shown_ev ?_
  have hl : seats_List.f (x : Int) = some (seatsOf x) := by
    unfold seats_List.f
    rw [if_pos (by omega), Int.toNat_natCast]
  simp only [hl, Option.bind_some]
  have hof := of_loop (seatsOf x) (seatsOf_length_le x) (fun i hi => ⟨((mem_seatsOf x i).1 hi).1, ((mem_seatsOf x i).1 hi).2.1⟩) (seatsOf x).length 0 0 (by omega) (by omega) (by omega)
  rw [List.drop_zero, putAll_seatsOf x hx] at hof
  refine Ev.bind (a := ((x : Int), 0)) hof ?_
  exact turn_loop x hx _ 0 (by omega) rfl

end Go.Proofs.YtcbehldoocfiiaaDoor.Pure
