/- What Go functions of this seat come to, as plain Lean functions, and the proof that each call does so, in whatever memory; its conditions stand in each theorem. Written by a program of this session (wip/gen), out of the print of the loaded translation. -/
import Derived.Test.YtlaagbadhkpjgaaQ0
import Derived.Test.YtlaagbadhkpjgaaQ4
import Derived.Test.YtlaagbadhkpjgaaQ5
import Derived.Test.YtlaagbadhkpjgaaQ7
import Derived.Test.YtlaagbadhkpjgaaE
namespace Go.Proofs.Ytlaagbadhkpjgaa.Q
open Go.RowKit Go.Proofs.YtlaagbadhkpjgaaW.PrintWords Go.Proofs.YtlaagbadhkpjgaaW.PrintLast Go.Proofs.YtlaagbadhkpjgaaW.PrintMore
attribute [local go_sem] max2_int min2_int max_two min_two max_three min_three max_four min_four   -- for this text's walks alone
set_option linter.unusedVariables false
set_option linter.unusedSimpArgs false

/-! ### selvedgeref09_Floor: function 18 -/
def selvedgeref09_Floor.l0 : Nat → List (S29) → Int → List (S29) → Int → Option ((List (S29)))
  | 0, _, _, _, _ => none
  | k + 1, x0, x1, x5, x6 => if x6 < (x0.length : Int) then (if 0 ≤ x6 then (if ((rd_T29 x0 x6).f1) > x1 then (if x5.length < 4398046511104 then (selvedgeref09_Floor.l0 k x0 x1 (x5 ++ [(⟨(rd_T29 x0 x6).f0, (rd_T29 x0 x6).f1, (rd_T29 x0 x6).f2⟩ : S29)]) (wrap64 (x6 + 1))) else (none)) else (selvedgeref09_Floor.l0 k x0 x1 x5 (wrap64 (x6 + 1)))) else (none)) else (some x5)
def selvedgeref09_Floor.f (k : Nat) (l0 : List (S29)) (a1 : Int) : Option ((List (S29))) := selvedgeref09_Floor.l0 k l0 a1 ([] : List (S29)) 0
theorem selvedgeref09_Floor.mono_l : ∀ k, (∀ y0 y1 y2 y3, LeO (selvedgeref09_Floor.l0 k y0 y1 y2 y3) (selvedgeref09_Floor.l0 (k + 1) y0 y1 y2 y3))
  | 0 => fun _ _ _ _ r h => by simp [selvedgeref09_Floor.l0] at h
  | k + 1 => by
    have ih0 := selvedgeref09_Floor.mono_l k
    · intro y0 y1 y2 y3
      unfold selvedgeref09_Floor.l0
      repeat' first
      | (with_reducible exact ih0 _ _ _ _)
      | (with_reducible exact LeO.refl _)
      | (with_reducible exact LeO.none _)
      | (with_reducible refine LeO.ite ?_ ?_)
      | (with_reducible refine LeO.bind ?_ (fun _ => ?_))
      | exact ih0 _ _ _ _
      | exact LeO.none _
      | refine LeO.ite ?_ ?_
      | refine LeO.bind ?_ (fun _ => ?_)
theorem selvedgeref09_Floor.mono : ∀ a0 a1 k, LeO (selvedgeref09_Floor.f k a0 a1) (selvedgeref09_Floor.f (k + 1) a0 a1) := by
  intro a0 a1 k
  have ih0 := selvedgeref09_Floor.mono_l k
  unfold selvedgeref09_Floor.f
  repeat' first
      | (with_reducible exact ih0 _ _ _ _)
      | (with_reducible exact LeO.refl _)
      | (with_reducible exact LeO.none _)
      | (with_reducible refine LeO.ite ?_ ?_)
      | (with_reducible refine LeO.bind ?_ (fun _ => ?_))
      | exact ih0 _ _ _ _
      | exact LeO.none _
      | refine LeO.ite ?_ ?_
      | refine LeO.bind ?_ (fun _ => ?_)
set_option maxHeartbeats 8000000 in
set_option maxRecDepth 100000 in
theorem selvedgeref09_Floor.calls (k : Nat) (A0 : Option Addr) (c0 : Nat) (l0 : List (S29)) (a1 : Int) (r : List (S29)) (w : World) (hr0 : Kd.C k29 w A0 l0.length l0) (hc0 : l0.length ≤ c0) (h : selvedgeref09_Floor.f k l0 a1 = some r) :
    Calls Try.prog 18 #[.slice A0 l0.length c0, .int .i64 a1] w fun e w' => ∃ v0_ : Value, e = .returned (v0_) ∧ Kd.R k29 29 w' w.heap.size (fun _ => True) v0_ r ∧ Below w.heap.size w w' := by
  have hu29 := Try.underlying29
  have HR0 := Aside0.mk hr0
  have HC0 := Aside0.mk hc0
  clear hr0 hc0
  have HB := Aside0.mk (Below.refl w.heap.size w)
  have H : (selvedgeref09_Floor.l0 k l0 a1 ([] : List (S29)) 0) = some r := h
  clear h
  have H' := Aside0.mk H
  clear H
  go_enter Try.func18, Try.ntmps18
  go_wp2
  go_loopg [5, 6] k (fun kq v5 v6 w' => ∃ (x5_1 : List (S29)) (x6_1 : Int), v6 = .int .i64 x6_1 ∧ Aside0 (selvedgeref09_Floor.l0 kq l0 a1 x5_1 x6_1 = some r) ∧ Aside0 (kq ≤ k) ∧ Aside0 (Kd.R k29 29 w' w.heap.size (fun _ => True) v5 x5_1) ∧ Aside0 (Below w.heap.size w w'))
  case atStart => exact ⟨(([] : List (S29))), (0), (by first | rfl | (simp; done) | (simp [*]; done)), H', ⟨Nat.le_refl _⟩, ⟨by first | exact Kd.R_nil _ _ _ _ _ | exact Kd.N_nil _ _ _ _ _ | exact Kd.V_nil _ _ _ _ _ | exact Kd.Q_nil _ _ _ _ _ | exact Kd.S_nil _ _ _ _ _⟩, ⟨by repeat (first | (with_reducible first | exact HB.out | apply below_alloc | apply pw_below_drewN | apply below_drew1) | exact HB.out)⟩⟩
  case round =>
    clear H'
    try clear c1
    try clear p2
    obtain ⟨x5_1, x6_1, rfl, HA, HK1, HO_5, HB⟩ := hrel
    cases gk with
    | zero => exact absurd HA.out (by simp [selvedgeref09_Floor.l0])
    | succ k1 =>
      have H := HA.out
      clear HA
      simp only [selvedgeref09_Floor.l0] at H
      by_cases c3 : x6_1 < (l0.length : Int)
      · rw [if_pos c3] at H
        have c3b0 : decide (x6_1 < (l0.length : Int)) = true := decide_eq_true c3
        clear c3
        by_cases c4 : 0 ≤ x6_1
        · rw [if_pos c4] at H
          have c4b0 : decide (0 ≤ x6_1) = true := decide_eq_true c4
          clear c4
          by_cases c5 : ((rd_T29 l0 x6_1).f1) > a1
          · rw [if_pos c5] at H
            have c5b0 : decide (a1 < ((rd_T29 l0 x6_1).f1)) = true := decide_eq_true c5
            clear c5
            by_cases c6 : x5_1.length < 4398046511104
            · rw [if_pos c6] at H
              have LMc6 := Aside0.mk c6
              clear c6
              obtain ⟨y180, hy180⟩ : ∃ y_ : List (S29), y_ = (x5_1 ++ [(⟨(rd_T29 l0 x6_1).f0, (rd_T29 l0 x6_1).f1, (rd_T29 l0 x6_1).f2⟩ : S29)]) := ⟨_, rfl⟩
              replace H : (selvedgeref09_Floor.l0 k1 l0 a1 y180 (wrap64 (x6_1 + 1))) = some r := by first | (rw [hy180]; with_reducible exact H) | (have H2_ := (Option.bind_some _ _).symm.trans H; rw [hy180]; with_reducible exact H2_) | (have H2_ := (Option.bind_some _ _).symm.trans H; with_reducible exact H2_) | with_reducible exact H | (rw [hy180]; exact H) | exact H
              have Ny180 := Aside0.mk hy180
              clear hy180
              have H' := Aside0.mk H
              clear H
              have p178 : 0 ≤ (x6_1 : Int) := of_decide_eq_true (by first | (with_reducible assumption) | assumption)
              have q178 : x6_1 < (l0.length : Int) := of_decide_eq_true (by first | (with_reducible assumption) | assumption)
              obtain ⟨ad178, e178, hx178_0, hx178_1, hx178_2⟩ := at_T29 HR0.out x6_1 p178 q178
              cases e178
              replace hx178_0 := (HB.out.cell (World.block_lt_of_cell? w _ hx178_0)).trans hx178_0
              replace hx178_1 := (HB.out.cell (World.block_lt_of_cell? w _ hx178_1)).trans hx178_1
              replace hx178_2 := (HB.out.cell (World.block_lt_of_cell? w _ hx178_2)).trans hx178_2
              replace p178 := eq_true p178
              replace q178 := eq_true q178
              have p179 : 0 ≤ (x6_1 : Int) := of_decide_eq_true (by first | (with_reducible assumption) | assumption)
              have q179 : x6_1 < (l0.length : Int) := of_decide_eq_true (by first | (with_reducible assumption) | assumption)
              obtain ⟨ad179, e179, hx179_0, hx179_1, hx179_2⟩ := at_T29 HR0.out x6_1 p179 q179
              obtain rfl : ad178 = ad179 := (by injection e179)
              replace hx179_0 := (HB.out.cell (World.block_lt_of_cell? w _ hx179_0)).trans hx179_0
              replace hx179_1 := (HB.out.cell (World.block_lt_of_cell? w _ hx179_1)).trans hx179_1
              replace hx179_2 := (HB.out.cell (World.block_lt_of_cell? w _ hx179_2)).trans hx179_2
              replace p179 := eq_true p179
              replace q179 := eq_true q179
              go_wp2_with (first | ((with_reducible refine gate_builtin (b := .append) (xs := #[.tmp 20, .tmp 25]) rfl ?_); at_builtin; refine Kd.R_append k29 (w0 := w) w.heap.size rfl (.tmp 20) (.tmp 25) 22 29 (.agg #[(.int .i64 0), (.int .i64 0), (.string ⟨#[]⟩)]) 32 rfl Try.underlying22 info29 rfl (by decide) (by omega) u5 x5_1 (⟨(rd_T29 l0 x6_1).f0, (rd_T29 l0 x6_1).f1, (rd_T29 l0 x6_1).f2⟩ : S29) [.int .i64 ((rd_T29 l0 x6_1).f0), .int .i64 ((rd_T29 l0 x6_1).f1), .string ((rd_T29 l0 x6_1).f2)] (fun _ => True) (fun _ => False) rfl rfl ?aP (fun _ hk => hk.elim) ?aF ?aO ?aB ?aS ?aL ?_; (case aP => exact k29_mkM _ _ _ (⟨(rd_T29 l0 x6_1).f0, (rd_T29 l0 x6_1).f1, (rd_T29 l0 x6_1).f2⟩ : S29)); (case aB => exact (by repeat (first | (with_reducible first | exact HB.out | apply below_alloc | apply pw_below_drewN | apply below_drew1) | exact HB.out))); (case aF => exact (fun _ _ => trivial)); (case aO => exact (by (with_reducible repeat (first | apply Kd.R_alloc | apply Kd.R_drewN | apply Kd.R_drew)); exact HO_5.out)); (case aS => exact (below_size (by repeat (first | (with_reducible first | exact HB.out | apply below_alloc | apply pw_below_drewN | apply below_drew1) | exact HB.out)))); (case aL => have := LMc6.out; omega); intro v181 w7 ho hb hg hat; rw [← Ny180.out] at ho; have n0_ := Aside0.mk (hb); have n1_ := Aside0.mk (ho); clear HB; clear HO_5; have HB := n0_; have HO182 := n1_; clear n0_ n1_; clear ho hb hg hat))
              go_roundg k1
              case measure => have := HK1.out; omega
              case rel => exact ⟨(y180), (wrap64 (x6_1 + 1)), (by first | rfl | (simp; done) | (simp [*]; done)), H', ⟨by have := HK1.out; omega⟩, ⟨by (with_reducible repeat (first | apply Kd.R_alloc | apply Kd.R_drewN | apply Kd.R_drew)); exact HO182.out⟩, ⟨by repeat (first | (with_reducible first | exact HB.out | apply below_alloc | apply pw_below_drewN | apply below_drew1) | exact HB.out)⟩⟩
            · rw [if_neg c6] at H
              exact absurd H (by simp)
          · rw [if_neg c5] at H
            have c5b0 : decide (a1 < ((rd_T29 l0 x6_1).f1)) = false := decide_eq_false c5
            clear c5
            have H' := Aside0.mk H
            clear H
            have p178 : 0 ≤ (x6_1 : Int) := of_decide_eq_true (by first | (with_reducible assumption) | assumption)
            have q178 : x6_1 < (l0.length : Int) := of_decide_eq_true (by first | (with_reducible assumption) | assumption)
            obtain ⟨ad178, e178, hx178_0, hx178_1, hx178_2⟩ := at_T29 HR0.out x6_1 p178 q178
            cases e178
            replace hx178_0 := (HB.out.cell (World.block_lt_of_cell? w _ hx178_0)).trans hx178_0
            replace hx178_1 := (HB.out.cell (World.block_lt_of_cell? w _ hx178_1)).trans hx178_1
            replace hx178_2 := (HB.out.cell (World.block_lt_of_cell? w _ hx178_2)).trans hx178_2
            replace p178 := eq_true p178
            replace q178 := eq_true q178
            go_wp2
            go_roundg k1
            case measure => have := HK1.out; omega
            case rel => exact ⟨(x5_1), (wrap64 (x6_1 + 1)), (by first | rfl | (simp; done) | (simp [*]; done)), H', ⟨by have := HK1.out; omega⟩, ⟨by (with_reducible repeat (first | apply Kd.R_alloc | apply Kd.R_drewN | apply Kd.R_drew)); exact HO_5.out⟩, ⟨by repeat (first | (with_reducible first | exact HB.out | apply below_alloc | apply pw_below_drewN | apply below_drew1) | exact HB.out)⟩⟩
        · rw [if_neg c4] at H
          exact absurd H (by simp)
      · rw [if_neg c3] at H
        have c3b0 : decide (x6_1 < (l0.length : Int)) = false := decide_eq_false c3
        clear c3
        obtain rfl := Option.some.inj H
        go_wp2
        go_ret
        exact ⟨_, by first | rfl | (simp [errW_none, errW_some] <;> rfl) | (simp [*, errW_none, errW_some] <;> rfl), by (with_reducible repeat (first | apply Kd.R_alloc | apply Kd.R_drewN | apply Kd.R_drew)); exact HO_5.out, by repeat (first | (with_reducible first | exact HB.out | apply below_alloc | apply pw_below_drewN | apply below_drew1) | exact HB.out)⟩

/-! ### selvedgelaw09_VoteGives: function 5 -/
def selvedgelaw09_VoteGives.f (k : Nat) (l0 : List (S29)) (a1 : Int) (a2_0 : Int) (a2_1 : Int) (a2_2 : ByteArray) : Option (Bool) := (selvedgelaw09_shown.f k).bind fun t184 => ((vote_Give.f l0 a1 a2_0 a2_1 a2_2).bind fun bt185 => ((selvedgeref09_Give.f k l0 a1 a2_0 a2_1 a2_2).bind fun bt189 => ((selvedgeref09_Same.f k bt185.1 bt189.1).bind fun t193 => ((vote_Floor.f l0 a1).bind fun t194 => ((selvedgeref09_Floor.f k l0 a1).bind fun t197 => ((selvedgeref09_Same.f k t194 t197).bind fun t200 => (if t184 = true then (if t193 = true then (if t200 = true then (some (bt185.2 == bt189.2)) else (some false)) else (some false)) else (some false))))))))
theorem selvedgelaw09_VoteGives.mono : ∀ a0 a1 a2 a3 a4 k, LeO (selvedgelaw09_VoteGives.f k a0 a1 a2 a3 a4) (selvedgelaw09_VoteGives.f (k + 1) a0 a1 a2 a3 a4) := by
  intro a0 a1 a2 a3 a4 k
  unfold selvedgelaw09_VoteGives.f
  repeat' first
      | (with_reducible exact selvedgelaw09_shown.mono _)
      | (with_reducible exact selvedgeref09_Floor.mono _ _ _)
      | (with_reducible exact selvedgeref09_Give.mono _ _ _ _ _ _)
      | (with_reducible exact selvedgeref09_Same.mono _ _ _)
      | (with_reducible exact LeO.refl _)
      | (with_reducible exact LeO.none _)
      | (with_reducible refine LeO.ite ?_ ?_)
      | (with_reducible refine LeO.bind ?_ (fun _ => ?_))
      | exact selvedgelaw09_shown.mono _
      | exact selvedgeref09_Floor.mono _ _ _
      | exact selvedgeref09_Give.mono _ _ _ _ _ _
      | exact selvedgeref09_Same.mono _ _ _
      | exact LeO.none _
      | refine LeO.ite ?_ ?_
      | refine LeO.bind ?_ (fun _ => ?_)
set_option maxHeartbeats 8000000 in
set_option maxRecDepth 100000 in
theorem selvedgelaw09_VoteGives.calls (k : Nat) (A0 : Option Addr) (c0 : Nat) (l0 : List (S29)) (a1 : Int) (a2_0 : Int) (a2_1 : Int) (a2_2 : ByteArray) (r : Bool) (w : World) (hr0 : Kd.C k29 w A0 l0.length l0) (hc0 : l0.length ≤ c0) (hrt : r = true) (h : selvedgelaw09_VoteGives.f k l0 a1 a2_0 a2_1 a2_2 = some r) :
    Calls Try.prog 5 #[.slice A0 l0.length c0, .int .i64 a1, .agg #[.int .i64 a2_0, .int .i64 a2_1, .string a2_2]] w fun e w' => e = .returned (.bool r) ∧ Below w.heap.size w w' := by
  have hu29 := Try.underlying29
  have HR0 := Aside0.mk hr0
  have HC0 := Aside0.mk hc0
  clear hr0 hc0
  have HRT := Aside0.mk hrt
  clear hrt
  have HB := Aside0.mk (Below.refl w.heap.size w)
  have H : ((selvedgelaw09_shown.f k).bind fun t184 => ((vote_Give.f l0 a1 a2_0 a2_1 a2_2).bind fun bt185 => ((selvedgeref09_Give.f k l0 a1 a2_0 a2_1 a2_2).bind fun bt189 => ((selvedgeref09_Same.f k bt185.1 bt189.1).bind fun t193 => ((vote_Floor.f l0 a1).bind fun t194 => ((selvedgeref09_Floor.f k l0 a1).bind fun t197 => ((selvedgeref09_Same.f k t194 t197).bind fun t200 => (if t184 = true then (if t193 = true then (if t200 = true then (some (bt185.2 == bt189.2)) else (some false)) else (some false)) else (some false))))))))) = some r := h
  clear h
  replace H := Option.bind_eq_some_iff.mp H
  obtain ⟨t184, A40, H⟩ := H
  replace H : ((vote_Give.f l0 a1 a2_0 a2_1 a2_2).bind fun bt185 => ((selvedgeref09_Give.f k l0 a1 a2_0 a2_1 a2_2).bind fun bt189 => ((selvedgeref09_Same.f k bt185.1 bt189.1).bind fun t193 => ((vote_Floor.f l0 a1).bind fun t194 => ((selvedgeref09_Floor.f k l0 a1).bind fun t197 => ((selvedgeref09_Same.f k t194 t197).bind fun t200 => (if t184 = true then (if t193 = true then (if t200 = true then (some (bt185.2 == bt189.2)) else (some false)) else (some false)) else (some false)))))))) = some r := H
  have A4 := Aside0.mk A40
  clear A40
  replace H := Option.bind_eq_some_iff.mp H
  obtain ⟨⟨t185, t188⟩, A50, H⟩ := H
  replace H : ((selvedgeref09_Give.f k l0 a1 a2_0 a2_1 a2_2).bind fun bt189 => ((selvedgeref09_Same.f k t185 bt189.1).bind fun t193 => ((vote_Floor.f l0 a1).bind fun t194 => ((selvedgeref09_Floor.f k l0 a1).bind fun t197 => ((selvedgeref09_Same.f k t194 t197).bind fun t200 => (if t184 = true then (if t193 = true then (if t200 = true then (some (t188 == bt189.2)) else (some false)) else (some false)) else (some false))))))) = some r := H
  have A5 := Aside0.mk A50
  clear A50
  replace H := Option.bind_eq_some_iff.mp H
  obtain ⟨⟨t189, t192⟩, A60, H⟩ := H
  replace H : ((selvedgeref09_Same.f k t185 t189).bind fun t193 => ((vote_Floor.f l0 a1).bind fun t194 => ((selvedgeref09_Floor.f k l0 a1).bind fun t197 => ((selvedgeref09_Same.f k t194 t197).bind fun t200 => (if t184 = true then (if t193 = true then (if t200 = true then (some (t188 == t192)) else (some false)) else (some false)) else (some false)))))) = some r := H
  have A6 := Aside0.mk A60
  clear A60
  replace H := Option.bind_eq_some_iff.mp H
  obtain ⟨t193, A70, H⟩ := H
  replace H : ((vote_Floor.f l0 a1).bind fun t194 => ((selvedgeref09_Floor.f k l0 a1).bind fun t197 => ((selvedgeref09_Same.f k t194 t197).bind fun t200 => (if t184 = true then (if t193 = true then (if t200 = true then (some (t188 == t192)) else (some false)) else (some false)) else (some false))))) = some r := H
  have A7 := Aside0.mk A70
  clear A70
  replace H := Option.bind_eq_some_iff.mp H
  obtain ⟨t194, A80, H⟩ := H
  replace H : ((selvedgeref09_Floor.f k l0 a1).bind fun t197 => ((selvedgeref09_Same.f k t194 t197).bind fun t200 => (if t184 = true then (if t193 = true then (if t200 = true then (some (t188 == t192)) else (some false)) else (some false)) else (some false)))) = some r := H
  have A8 := Aside0.mk A80
  clear A80
  replace H := Option.bind_eq_some_iff.mp H
  obtain ⟨t197, A90, H⟩ := H
  replace H : ((selvedgeref09_Same.f k t194 t197).bind fun t200 => (if t184 = true then (if t193 = true then (if t200 = true then (some (t188 == t192)) else (some false)) else (some false)) else (some false))) = some r := H
  have A9 := Aside0.mk A90
  clear A90
  replace H := Option.bind_eq_some_iff.mp H
  obtain ⟨t200, A100, H⟩ := H
  replace H : (if t184 = true then (if t193 = true then (if t200 = true then (some (t188 == t192)) else (some false)) else (some false)) else (some false)) = some r := H
  have A10 := Aside0.mk A100
  clear A100
  by_cases c11 : t184 = true
  · subst c11
    have H1 : (if t193 = true then (if t200 = true then (some (t188 == t192)) else (some false)) else (some false)) = some r := by rw [if_pos rfl] at H; exact H
    clear H
    have H := H1
    clear H1
    by_cases c12 : t193 = true
    · subst c12
      have H1 : (if t200 = true then (some (t188 == t192)) else (some false)) = some r := by rw [if_pos rfl] at H; exact H
      clear H
      have H := H1
      clear H1
      by_cases c13 : t200 = true
      · subst c13
        have H1 : (some (t188 == t192)) = some r := by rw [if_pos rfl] at H; exact H
        clear H
        have H := H1
        clear H1
        obtain rfl := Option.some.inj H
        go_enter Try.func5, Try.ntmps5
        go_wp2_with (first | ((with_reducible refine gate_dst (N := 5) rfl ?_); refine box_event ?hg (N := 5) ?hd (cs := #[.int .i64 a2_0, .int .i64 a2_1, .string a2_2]) (t := 29) ?hr ?_; (case hd => rfl); (case hg => rfl); (case hr => first | (go_simp; done) | (go_simp; rfl)); intro gb183 hg w14 hbox hb; have n0_ := Aside0.mk (below_step (by repeat (first | (with_reducible first | exact HB.out | apply below_alloc | apply pw_below_drewN | apply below_drew1) | exact HB.out)) hb); have n1_ := Aside0.mk (hbox); have n2_ := Aside0.mk ((by rw [hg]; exact (below_size (by repeat (first | (with_reducible first | exact HB.out | apply below_alloc | apply pw_below_drewN | apply below_drew1) | exact HB.out))) : w.heap.size ≤ gb183)); have n3_ := Aside0.mk ((by rw [hg]; exact (below_size (by repeat (first | (with_reducible first | exact HB.out | apply below_alloc | apply pw_below_drewN | apply below_drew1) | exact HB.out))) : w.heap.size ≤ gb183)); clear HB; have HB := n0_; have BK183 := n1_; have GW183 := n2_; have GE183 := n3_; clear n0_ n1_ n2_ n3_; clear hb hbox hg) | ((with_reducible refine gate_callee (f := 9) rfl ?_); refine goesL_ (some 14) rfl rfl Try.func9 (by kernel_rfl) rfl #[] rfl (by (try simp only [List.map_toArray, List.map_cons, List.map_nil]); first | done | rfl | (simp only [List.length_drop, List.length_take]; rfl)) ?_; (with_reducible refine (selvedgelaw09_shown.calls k  true _ A4.out).mono ?_); rintro e w15 ⟨rfl, hb⟩; refine ⟨_, rfl, ?_⟩; have n0_ := Aside0.mk (blk_below (g := gb183) (o := .cells #[.int .i64 a2_0, .int .i64 a2_1, .string a2_2] 29 (0, 0)) (by (with_reducible repeat (first | refine blk_drewN ?_ _ | refine blk_drew ?_ | refine blk_alloc ?_ _)); exact BK183.out) hb); have n1_ := Aside0.mk (below_step (by repeat (first | (with_reducible first | exact HB.out | apply below_alloc | apply pw_below_drewN | apply below_drew1 | refine below_set ?_ GE183.out) | exact HB.out)) hb); clear BK183; clear HB; have BK183 := n0_; have HB := n1_; clear n0_ n1_; (try clear hb); (try clear hb2); (try clear hk); (try clear hi); have hcz16_0 : w15.cell? ⟨gb183, 0, none⟩ = some (.int .i64 a2_0) := (blk_cell BK183.out 0).trans rfl; have hcz16_1 : w15.cell? ⟨gb183, 1, none⟩ = some (.int .i64 a2_1) := (blk_cell BK183.out 1).trans rfl; have hcz16_2 : w15.cell? ⟨gb183, 2, none⟩ = some (.string a2_2) := (blk_cell BK183.out 2).trans rfl; have hfz16_0 := blk_frozen BK183.out 0; have hfz16_1 := blk_frozen BK183.out 1; have hfz16_2 := blk_frozen BK183.out 2) | ((with_reducible refine gate_callee (f := 14) rfl ?_); refine goesL_ (some 19) rfl rfl Try.func14 (by kernel_rfl) rfl #[.slice A0 l0.length c0, .int .i64 a1, .agg #[.int .i64 a2_0, .int .i64 a2_1, .string a2_2]] rfl (by (try simp only [List.map_toArray, List.map_cons, List.map_nil]); first | done | rfl | (simp only [List.length_drop, List.length_take]; rfl)) ?_; (with_reducible refine (vote_Give.calls (fun k_ => k_ < w.heap.size) _ _ l0 a1 a2_0 a2_1 a2_2 t185 t188 _ ?side1 A5.out).mono ?_); (case side1 => exact Kd.V_mk HC0.out (Kd.F_below (Kd.C_F k29_heap HR0.out) (by repeat (first | (with_reducible first | exact HB.out | apply below_alloc | apply pw_below_drewN | apply below_drew1 | refine below_set ?_ GE183.out) | exact HB.out)))); rintro e w17 ⟨v186, rfl, ho0, hb⟩; refine ⟨_, rfl, ?_⟩; have n0_ := Aside0.mk (Kd.V_lower (Kd.V_mono (ok' := fun k_ => k_ ≠ gb183) ho0 (fun k_ hk_ => Or.elim hk_ (fun hs_ => fun e_ => Nat.not_le.2 hs_ (by rw [e_]; exact GW183.out)) (fun hn_ => (Kd.freshB (g := gb183) (o := .cells #[.int .i64 a2_0, .int .i64 a2_1, .string a2_2] 29 (0, 0)) (by (with_reducible repeat (first | refine blk_drewN ?_ _ | refine blk_drew ?_ | refine blk_alloc ?_ _)); exact BK183.out) k_ hn_)))) (below_size (by repeat (first | (with_reducible first | exact HB.out | apply below_alloc | apply pw_below_drewN | apply below_drew1 | refine below_set ?_ GE183.out) | exact HB.out)))); have n1_ := Aside0.mk (blk_below (g := gb183) (o := .cells #[.int .i64 a2_0, .int .i64 a2_1, .string a2_2] 29 (0, 0)) (by (with_reducible repeat (first | refine blk_drewN ?_ _ | refine blk_drew ?_ | refine blk_alloc ?_ _)); exact BK183.out) hb); have n2_ := Aside0.mk (below_step (by repeat (first | (with_reducible first | exact HB.out | apply below_alloc | apply pw_below_drewN | apply below_drew1 | refine below_set ?_ GE183.out) | exact HB.out)) hb); clear BK183; clear HB; have HO187 := n0_; have BK183 := n1_; have HB := n2_; clear n0_ n1_ n2_; (try clear hb); (try clear hb2); (try clear hk); (try clear hi); (try clear ho0); have hcz18_0 : w17.cell? ⟨gb183, 0, none⟩ = some (.int .i64 a2_0) := (blk_cell BK183.out 0).trans rfl; have hcz18_1 : w17.cell? ⟨gb183, 1, none⟩ = some (.int .i64 a2_1) := (blk_cell BK183.out 1).trans rfl; have hcz18_2 : w17.cell? ⟨gb183, 2, none⟩ = some (.string a2_2) := (blk_cell BK183.out 2).trans rfl; have hfz18_0 := blk_frozen BK183.out 0; have hfz18_1 := blk_frozen BK183.out 1; have hfz18_2 := blk_frozen BK183.out 2) | ((with_reducible refine gate_callee (f := 16) rfl ?_); refine goesL_ (some 26) rfl rfl Try.func16 (by kernel_rfl) rfl #[.slice A0 l0.length c0, .int .i64 a1, .agg #[.int .i64 a2_0, .int .i64 a2_1, .string a2_2]] rfl (by (try simp only [List.map_toArray, List.map_cons, List.map_nil]); first | done | rfl | (simp only [List.length_drop, List.length_take]; rfl)) ?_; (with_reducible refine (selvedgeref09_Give.calls k (fun k_ => k_ < w.heap.size) _ _ l0 a1 a2_0 a2_1 a2_2 t189 t192 _ ?side1 A6.out).mono ?_); (case side1 => exact Kd.V_mk HC0.out (Kd.F_below (Kd.C_F k29_heap HR0.out) (by repeat (first | (with_reducible first | exact HB.out | apply below_alloc | apply pw_below_drewN | apply below_drew1 | refine below_set ?_ GE183.out) | exact HB.out)))); rintro e w19 ⟨v190, rfl, ho0, hb⟩; refine ⟨_, rfl, ?_⟩; have n0_ := Aside0.mk (Kd.V_below (by (with_reducible repeat (first | apply Kd.V_alloc | apply Kd.V_drewN | apply Kd.V_drew)); exact HO187.out) hb); have n1_ := Aside0.mk (Kd.V_lower (Kd.V_mono (ok' := fun k_ => k_ ≠ gb183) ho0 (fun k_ hk_ => Or.elim hk_ (fun hs_ => fun e_ => Nat.not_le.2 hs_ (by rw [e_]; exact GW183.out)) (fun hn_ => (Kd.freshB (g := gb183) (o := .cells #[.int .i64 a2_0, .int .i64 a2_1, .string a2_2] 29 (0, 0)) (by (with_reducible repeat (first | refine blk_drewN ?_ _ | refine blk_drew ?_ | refine blk_alloc ?_ _)); exact BK183.out) k_ hn_)))) (below_size (by repeat (first | (with_reducible first | exact HB.out | apply below_alloc | apply pw_below_drewN | apply below_drew1 | refine below_set ?_ GE183.out) | exact HB.out)))); have n2_ := Aside0.mk (blk_below (g := gb183) (o := .cells #[.int .i64 a2_0, .int .i64 a2_1, .string a2_2] 29 (0, 0)) (by (with_reducible repeat (first | refine blk_drewN ?_ _ | refine blk_drew ?_ | refine blk_alloc ?_ _)); exact BK183.out) hb); have n3_ := Aside0.mk (below_step (by repeat (first | (with_reducible first | exact HB.out | apply below_alloc | apply pw_below_drewN | apply below_drew1 | refine below_set ?_ GE183.out) | exact HB.out)) hb); clear HO187; clear BK183; clear HB; have HO187 := n0_; have HO191 := n1_; have BK183 := n2_; have HB := n3_; clear n0_ n1_ n2_ n3_; (try clear hb); (try clear hb2); (try clear hk); (try clear hi); (try clear ho0); obtain ⟨Ao20, co20, eo20⟩ := Kd.V_slice HO187.out; subst eo20; obtain ⟨Ao21, co21, eo21⟩ := Kd.V_slice HO191.out; subst eo21) | ((with_reducible refine gate_callee (f := 15) rfl ?_); refine goesL_ (some 31) rfl rfl Try.func15 (by kernel_rfl) rfl #[.slice Ao20 t185.length co20, .slice Ao21 t189.length co21] rfl (by (try simp only [List.map_toArray, List.map_cons, List.map_nil]); first | done | rfl | (simp only [List.length_drop, List.length_take]; rfl)) ?_; (with_reducible refine (selvedgeref09_Same.calls k _ _ t185 _ _ t189 true _ ?side1 ?side2 ?side3 ?side4 A7.out).mono ?_); (case side1 => repeat (first | exact (Kd.V_reads' HO187.out).2.2 | (with_reducible refine Kd.C_alloc ?_ _) | (with_reducible refine Kd.C_drewN ?_ _) | (with_reducible refine Kd.C_drew ?_))); (case side2 => exact (Kd.V_reads' HO187.out).2.1); (case side3 => repeat (first | exact (Kd.V_reads' HO191.out).2.2 | (with_reducible refine Kd.C_alloc ?_ _) | (with_reducible refine Kd.C_drewN ?_ _) | (with_reducible refine Kd.C_drew ?_))); (case side4 => exact (Kd.V_reads' HO191.out).2.1); rintro e w' ⟨rfl, ⟨nd, rfl⟩⟩; refine ⟨_, rfl, ?_⟩) | ((with_reducible refine gate_callee (f := 17) rfl ?_); refine goesL_ (some 34) rfl rfl Try.func17 (by kernel_rfl) rfl #[.slice A0 l0.length c0, .int .i64 a1] rfl (by (try simp only [List.map_toArray, List.map_cons, List.map_nil]); first | done | rfl | (simp only [List.length_drop, List.length_take]; rfl)) ?_; (with_reducible refine (vote_Floor.calls _ _ l0 a1 t194 _ ?side1 ?side2 A8.out).mono ?_); (case side1 => repeat (first | exact (Kd.C_below HR0.out (by repeat (first | (with_reducible first | exact HB.out | apply below_alloc | apply pw_below_drewN | apply below_drew1 | refine below_set ?_ GE183.out) | exact HB.out))) | (with_reducible refine Kd.C_alloc ?_ _) | (with_reducible refine Kd.C_drewN ?_ _) | (with_reducible refine Kd.C_drew ?_))); (case side2 => exact HC0.out); rintro e w22 ⟨v195, rfl, ho0, hb⟩; refine ⟨_, rfl, ?_⟩; have n0_ := Aside0.mk (Kd.V_elder' (by (with_reducible repeat (first | apply Kd.V_alloc | apply Kd.V_drewN | apply Kd.V_drew)); exact HO187.out) (Kd.R_base ho0) hb); have n1_ := Aside0.mk (Kd.V_elder' (by (with_reducible repeat (first | apply Kd.V_alloc | apply Kd.V_drewN | apply Kd.V_drew)); exact HO191.out) (Kd.R_base ho0) hb); have n2_ := Aside0.mk (Kd.R_lower (Kd.R_newB ho0 (g := gb183) (o := .cells #[.int .i64 a2_0, .int .i64 a2_1, .string a2_2] 29 (0, 0)) (by (with_reducible repeat (first | refine blk_drewN ?_ _ | refine blk_drew ?_ | refine blk_alloc ?_ _)); exact BK183.out)) (below_size (by repeat (first | (with_reducible first | exact HB.out | apply below_alloc | apply pw_below_drewN | apply below_drew1 | refine below_set ?_ GE183.out) | exact HB.out)))); have n3_ := Aside0.mk (blk_below (g := gb183) (o := .cells #[.int .i64 a2_0, .int .i64 a2_1, .string a2_2] 29 (0, 0)) (by (with_reducible repeat (first | refine blk_drewN ?_ _ | refine blk_drew ?_ | refine blk_alloc ?_ _)); exact BK183.out) hb); have n4_ := Aside0.mk (below_step (by repeat (first | (with_reducible first | exact HB.out | apply below_alloc | apply pw_below_drewN | apply below_drew1 | refine below_set ?_ GE183.out) | exact HB.out)) hb); clear HO187; clear HO191; clear BK183; clear HB; have HO187 := n0_; have HO191 := n1_; have HO196 := n2_; have BK183 := n3_; have HB := n4_; clear n0_ n1_ n2_ n3_ n4_; (try clear hb); (try clear hb2); (try clear hk); (try clear hi); (try clear ho0)) | ((with_reducible refine gate_callee (f := 18) rfl ?_); refine goesL_ (some 37) rfl rfl Try.func18 (by kernel_rfl) rfl #[.slice A0 l0.length c0, .int .i64 a1] rfl (by (try simp only [List.map_toArray, List.map_cons, List.map_nil]); first | done | rfl | (simp only [List.length_drop, List.length_take]; rfl)) ?_; (with_reducible refine (selvedgeref09_Floor.calls k _ _ l0 a1 t197 _ ?side1 ?side2 A9.out).mono ?_); (case side1 => repeat (first | exact (Kd.C_below HR0.out HB.out) | (with_reducible refine Kd.C_alloc ?_ _) | (with_reducible refine Kd.C_drewN ?_ _) | (with_reducible refine Kd.C_drew ?_))); (case side2 => exact HC0.out); rintro e w23 ⟨v198, rfl, ho0, hb⟩; refine ⟨_, rfl, ?_⟩; have n0_ := Aside0.mk (Kd.V_elder' (by (with_reducible repeat (first | apply Kd.V_alloc | apply Kd.V_drewN | apply Kd.V_drew)); exact HO187.out) (Kd.R_base ho0) hb); have n1_ := Aside0.mk (Kd.V_elder' (by (with_reducible repeat (first | apply Kd.V_alloc | apply Kd.V_drewN | apply Kd.V_drew)); exact HO191.out) (Kd.R_base ho0) hb); have n2_ := Aside0.mk (Kd.R_elder' (by (with_reducible repeat (first | apply Kd.R_alloc | apply Kd.R_drewN | apply Kd.R_drew)); exact HO196.out) (Kd.R_base ho0) hb); have n3_ := Aside0.mk (Kd.R_lower (Kd.R_newB (Kd.R_new' ho0 (Kd.R_lt (by (with_reducible repeat (first | apply Kd.R_alloc | apply Kd.R_drewN | apply Kd.R_drew)); exact HO196.out))) (g := gb183) (o := .cells #[.int .i64 a2_0, .int .i64 a2_1, .string a2_2] 29 (0, 0)) (by (with_reducible repeat (first | refine blk_drewN ?_ _ | refine blk_drew ?_ | refine blk_alloc ?_ _)); exact BK183.out)) (below_size (by repeat (first | (with_reducible first | exact HB.out | apply below_alloc | apply pw_below_drewN | apply below_drew1 | refine below_set ?_ GE183.out) | exact HB.out)))); have n4_ := Aside0.mk (blk_below (g := gb183) (o := .cells #[.int .i64 a2_0, .int .i64 a2_1, .string a2_2] 29 (0, 0)) (by (with_reducible repeat (first | refine blk_drewN ?_ _ | refine blk_drew ?_ | refine blk_alloc ?_ _)); exact BK183.out) hb); have n5_ := Aside0.mk (below_step (by repeat (first | (with_reducible first | exact HB.out | apply below_alloc | apply pw_below_drewN | apply below_drew1 | refine below_set ?_ GE183.out) | exact HB.out)) hb); clear HO187; clear HO191; clear HO196; clear BK183; clear HB; have HO187 := n0_; have HO191 := n1_; have HO196 := n2_; have HO199 := n3_; have BK183 := n4_; have HB := n5_; clear n0_ n1_ n2_ n3_ n4_ n5_; (try clear hb); (try clear hb2); (try clear hk); (try clear hi); (try clear ho0); obtain ⟨Ao24, co24, eo24⟩ := Kd.R_slice HO196.out; subst eo24; obtain ⟨Ao25, co25, eo25⟩ := Kd.R_slice HO199.out; subst eo25) | ((with_reducible refine gate_callee (f := 15) rfl ?_); refine goesL_ (some 38) rfl rfl Try.func15 (by kernel_rfl) rfl #[.slice Ao24 t194.length co24, .slice Ao25 t197.length co25] rfl (by (try simp only [List.map_toArray, List.map_cons, List.map_nil]); first | done | rfl | (simp only [List.length_drop, List.length_take]; rfl)) ?_; (with_reducible refine (selvedgeref09_Same.calls k _ _ t194 _ _ t197 true _ ?side1 ?side2 ?side3 ?side4 A10.out).mono ?_); (case side1 => repeat (first | exact (Kd.R_reads' HO196.out).2.2 | (with_reducible refine Kd.C_alloc ?_ _) | (with_reducible refine Kd.C_drewN ?_ _) | (with_reducible refine Kd.C_drew ?_))); (case side2 => exact (Kd.R_reads' HO196.out).2.1); (case side3 => repeat (first | exact (Kd.R_reads' HO199.out).2.2 | (with_reducible refine Kd.C_alloc ?_ _) | (with_reducible refine Kd.C_drewN ?_ _) | (with_reducible refine Kd.C_drew ?_))); (case side4 => exact (Kd.R_reads' HO199.out).2.1); rintro e w' ⟨rfl, ⟨nd, rfl⟩⟩; refine ⟨_, rfl, ?_⟩))
        go_ret
        exact ⟨by first | rfl | (simp [errW_none, errW_some] <;> rfl) | (simp [*, errW_none, errW_some] <;> rfl), by repeat (first | (with_reducible first | exact HB.out | apply below_alloc | apply pw_below_drewN | apply below_drew1 | refine below_set ?_ GE183.out) | exact HB.out)⟩
      · replace c13 := Bool.eq_false_iff.mpr c13
        subst c13
        have H1 : (some false) = some r := by rw [if_neg (show ¬ (false = true) by decide)] at H; exact H
        clear H
        have H := H1
        clear H1
        exact absurd ((Option.some.inj H).trans HRT.out) (by decide)
    · replace c12 := Bool.eq_false_iff.mpr c12
      subst c12
      have H1 : (some false) = some r := by rw [if_neg (show ¬ (false = true) by decide)] at H; exact H
      clear H
      have H := H1
      clear H1
      exact absurd ((Option.some.inj H).trans HRT.out) (by decide)
  · replace c11 := Bool.eq_false_iff.mpr c11
    subst c11
    have H1 : (some false) = some r := by rw [if_neg (show ¬ (false = true) by decide)] at H; exact H
    clear H
    have H := H1
    clear H1
    exact absurd ((Option.some.inj H).trans HRT.out) (by decide)

end Go.Proofs.Ytlaagbadhkpjgaa.Q
