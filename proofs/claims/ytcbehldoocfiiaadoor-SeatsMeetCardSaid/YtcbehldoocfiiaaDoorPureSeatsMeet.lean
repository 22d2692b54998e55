/- SeatsMeet: what the law comes to is true at every number and two sets. -/
import Derived.Test.YtcbehldoocfiiaaDoorPure0
namespace Go.Proofs.YtcbehldoocfiiaaDoor.Pure
open Go.RowKit Go.Proofs.YtcbehldoocfiiaaDoor.Q Go.Proofs.YtcbehldoocfiiaaDoorW.PrintWords Go.Proofs.YtcbehldoocfiiaaDoorW.PrintLast Go.Proofs.YtcbehldoocfiiaaDoorW.PrintMore

theorem within_cnt {x : Nat} {n : Int} (h0 : 0 ≤ n) (h64 : n ≤ 64) (h : seats_Within.f x n = some true) : cnt 64 x ≤ n.toNat := by
  obtain ⟨m, rfl⟩ := Int.eq_ofNat_of_zero_le h0
  rw [within_f x m (by omega)] at h
  exact cnt_le_of_lt 64 _ x (of_decide_eq_true (Option.some.inj h))

theorem or_within {x y : Nat} {n : Int} (h0 : 0 ≤ n) (h64 : n ≤ 64) (hx : seats_Within.f x n = some true) (hy : seats_Within.f y n = some true) : cnt 64 (x ||| y) ≤ n.toNat := by
  obtain ⟨m, rfl⟩ := Int.eq_ofNat_of_zero_le h0
  rw [within_f x m (by omega)] at hx
  rw [within_f y m (by omega)] at hy
  exact cnt_le_of_lt 64 _ _ (Nat.or_lt_two_pow (of_decide_eq_true (Option.some.inj hx)) (of_decide_eq_true (Option.some.inj hy)))

theorem within_some (x : Nat) (n : Int) : ∃ b, seats_Within.f x n = some b := by
  by_cases h : 0 ≤ n ∧ n ≤ 64
  · obtain ⟨m, rfl⟩ := Int.eq_ofNat_of_zero_le h.1
    exact ⟨_, within_f x m (by omega)⟩
  · exact ⟨_, within_no x n h⟩

theorem j0_up (n a b : Int) : Ev (fun k => selvedgelaw05_SeatsMeet.j0 k n a b true true) true :=
  Ev.step (f := fun _ => some true) (fun k => by simp only [selvedgelaw05_SeatsMeet.j0, if_true]) (Ev.now true)

theorem SeatsMeet (n a b : Int) (_hn : (Lit.int .i64 n).wf = true) (ha : (Lit.int .u64 a).wf = true) (hb : (Lit.int .u64 b).wf = true) : ∃ k, selvedgelaw05_SeatsMeet.f k n a b = some true := by
  obtain ⟨x, rfl, hx⟩ := u64_nat ha
  obtain ⟨y, rfl, hy⟩ := u64_nat hb
  have hxy : x &&& y < 18446744073709551616 := Nat.lt_of_le_of_lt Nat.and_le_left hx
  refine Ev.rounds (g := fun k => selvedgelaw05_SeatsMeet.f k n x y) ?_
  unfold selvedgelaw05_SeatsMeet.f
  refine Ev.bind shown_ev ?_
  simp only [if_true, may_f, Option.bind_some]
  by_cases hm : mayB n = true
  · rw [hm]
    simp only [if_true]
    obtain ⟨m1, m2, m3⟩ := mayB_true hm
    obtain ⟨c, hc⟩ := within_some x n
    obtain ⟨d, hd⟩ := within_some y n
    simp only [hc, Option.bind_some]
    cases c with
    | false => simp only [if_neg (show ¬ (false = true) by decide)]; exact j0_up _ _ _
    | true =>
      simp only [if_true, hd, Option.bind_some]
      cases d with
      | false => simp only [if_neg (show ¬ (false = true) by decide)]; exact j0_up _ _ _
      | true =>
        simp only [if_true, count_f x hx, quorum_f, hm, Option.bind_some]
        have hor := or_within (by omega) (by omega) hc hd
        have hsum := cnt_or_and 64 x y
        rw [← seatsOf_length (x &&& y), ← seatsOf_length x, ← seatsOf_length y] at hsum
        by_cases hq : ((seatsOf x).length : Int) < n - (n - 1) / 3
        · rw [decide_eq_true hq]; exact j0_up _ _ _
        · rw [decide_eq_false hq]
          have j1 : Ev (fun k => selvedgelaw05_SeatsMeet.j1 k n x y false) true := by
            refine Ev.step (f := fun _ => some true) (fun k => ?_) (Ev.now true)
            simp only [selvedgelaw05_SeatsMeet.j1]
            rw [if_neg (by decide), count_f y hy, weak_f, hm]
            simp only [if_true, Option.bind_some]
            by_cases hw : ((seatsOf y).length : Int) < (n - 1) / 3 + 1
            · rw [if_pos hw]
            · rw [if_neg hw, and_u64 x y rfl rfl hx hy]
              congr 1
              rw [bne_iff_ne]
              intro h0
              have hz : x &&& y = 0 := by omega
              rw [hz, seatsOf_zero] at hsum
              simp at hsum; omega
          refine Ev.step (fun k => by simp only [selvedgelaw05_SeatsMeet.j0]; rw [if_neg (by decide), count_f y hy, quorum_f, hm]) ?_
          simp only [if_true, Option.bind_some]
          by_cases hq2 : ((seatsOf y).length : Int) ≥ n - (n - 1) / 3
          · simp only [if_pos hq2, and_u64 x y rfl rfl hx hy, count_f _ hxy, weak_f, hm, if_true, Option.bind_some]
            rw [decide_eq_false (by omega)]
            exact j1
          · simp only [if_neg hq2]
            exact j1
  · simp only [if_neg hm]
    exact j0_up _ _ _

end Go.Proofs.YtcbehldoocfiiaaDoor.Pure
