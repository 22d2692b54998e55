/- BookStays: what the law comes to is true at every list of seals and seal; conditions: the list's length is below 5864062014700, its texts' sizes below 2^62. -/
import Derived.Test.YtigbkmbcoiodmaaPureBookPuts
import Derived.Test.YtigbkmbcoiodmaaQ8
namespace Go.Proofs.Ytigbkmbcoiodmaa.Pure
open Go.RowKit Go.Proofs.Ytigbkmbcoiodmaa.Q Go.Proofs.YtigbkmbcoiodmaaW.PrintWords Go.Proofs.YtigbkmbcoiodmaaW.PrintLast Go.Proofs.YtigbkmbcoiodmaaW.PrintMore
/-- One seal after the other. -/
def putL : List S24 → List S24 → List S24
  | b, [] => b
  | b, s :: r => putL (putB b s.f0 s.f1) r
theorem putL_snoc : ∀ (r b : List S24) (s : S24), putL b (r ++ [s]) = putB (putL b r) s.f0 s.f1
  | [], _, _ => rfl
  | x :: r, b, s => by rw [List.cons_append, putL, putL, putL_snoc r]
theorem putL_take (b l : List S24) (j : Nat) (h : j < l.length) : putL b (l.take (j + 1)) = putB (putL b (l.take j)) l[j].f0 l[j].f1 := by
  rw [List.take_succ_eq_append_getElem h, putL_snoc]
theorem mem_putL {x : S24} : ∀ {r b : List S24}, x ∈ putL b r ↔ x ∈ b ∨ ((1 ≤ x.f0 ∧ x.f0 ≤ 64) ∧ x ∈ r)
  | [], b => by simp [putL]
  | s :: r, b => by
    rw [putL, mem_putL, mem_putB, List.mem_cons]
    have e : (⟨s.f0, s.f1⟩ : S24) = s := rfl
    rw [e]
    constructor
    · rintro ((h | ⟨h1, h2⟩) | h)
      · exact .inl h
      · exact .inr ⟨by rw [h2]; exact h1, .inl h2⟩
      · exact .inr ⟨h.1, .inr h.2⟩
    · rintro (h | ⟨h1, h2 | h2⟩)
      · exact .inl (.inl h)
      · exact .inl (.inr ⟨by rw [← h2]; exact h1, h2⟩)
      · exact .inr ⟨h1, h2⟩
theorem len_putL : ∀ (r b : List S24), (putL b r).length ≤ b.length + r.length
  | [], b => by simp [putL]
  | s :: r, b => by
    rw [putL, List.length_cons]
    have h1 := len_putL r (putB b s.f0 s.f1)
    have h2 := len_putB_le b s.f0 s.f1
    omega
def Asc (l : List S24) : Prop := l.Pairwise (fun x y => ltB x y = true)
theorem asc_put {l : List S24} (h : Asc l) (a : Int) (b : ByteArray) : Asc (putB l a b) := by
  by_cases hm : 1 ≤ a ∧ a ≤ 64
  · by_cases hn : (⟨a, b⟩ : S24) ∈ l
    · rw [putB_in l a b hn]; exact h
    · rw [putB_new l a b hm hn]
      obtain ⟨i, hi⟩ : ∃ i, i = l.findIdx (aheadB a b) := ⟨_, rfl⟩
      rw [← hi]
      have hsplit : Asc (l.take i ++ l.drop i) := by rw [List.take_append_drop]; exact h
      unfold Asc at hsplit ⊢
      rw [List.pairwise_append] at hsplit
      have hlow : ∀ y ∈ l.take i, ltB y ⟨a, b⟩ = true := by
        intro y hy
        obtain ⟨q, hq, rfl⟩ := List.mem_iff_getElem.1 hy
        have hq' : q < i ∧ q < l.length := by rw [List.length_take] at hq; omega
        have h1 : aheadB a b l[q] = false := by
          have := List.not_of_lt_findIdx (xs := l) (p := aheadB a b) (i := q) (by omega)
          simpa using this
        rw [List.getElem_take]
        cases h2 : ltB l[q] ⟨a, b⟩ with
        | true => rfl
        | false =>
          have := ltB_tri (x := l[q]) (y := ⟨a, b⟩) h2 h1
          exact absurd (this ▸ List.getElem_mem hq'.2) hn
      have hhigh : ∀ y ∈ l.drop i, ltB ⟨a, b⟩ y = true := by
        rcases Nat.lt_or_ge i l.length with hlt | hge
        · have h1 : aheadB a b l[i] = true := by
            have := List.findIdx_getElem (xs := l) (p := aheadB a b) (w := by omega)
            simp only [← hi] at this
            exact this
          intro y hy
          rw [List.drop_eq_getElem_cons hlt] at hy hsplit
          rcases List.mem_cons.1 hy with rfl | hy'
          · exact h1
          · exact ltB_trans (x := ⟨a, b⟩) h1 ((List.pairwise_cons.1 hsplit.2.1).1 y hy')
        · intro y hy
          rw [List.drop_of_length_le hge] at hy
          cases hy
      rw [List.pairwise_append]
      refine ⟨hsplit.1, List.pairwise_cons.2 ⟨hhigh, hsplit.2.1⟩, fun x hx y hy => ?_⟩
      rcases List.mem_cons.1 hy with rfl | hy'
      · exact hlow x hx
      · exact hsplit.2.2 x hx y hy'
  · rw [putB_no l a b hm]; exact h
theorem asc_putL : ∀ (r b : List S24), Asc b → Asc (putL b r)
  | [], _, h => h
  | s :: r, b, h => asc_putL r _ (asc_put h s.f0 s.f1)
theorem rightD_of {l : List S24} (h : Asc l) (hm : ∀ x ∈ l, 1 ≤ x.f0 ∧ x.f0 ≤ 64) : ∀ d j, j + d = l.length → rightD l d j = true
  | 0, _, _ => rfl
  | d + 1, j, e => by
    have hj : j < l.length := by omega
    rw [rightD, rightD_of h hm d (j + 1) (by omega), Bool.and_true]
    unfold okAt
    rw [decide_eq_true (hm _ (rd_mem l j hj)), Bool.true_and]
    by_cases h0 : j = 0
    · rw [decide_eq_true h0]; rfl
    · rw [decide_eq_false h0, Bool.false_or, rd_eq l (j - 1) (by omega), rd_eq l j hj]
      exact List.pairwise_iff_getElem.1 h (j - 1) j (by omega) hj (by omega)
def inB (l : List S24) (a : Int) (b : ByteArray) (j : Nat) : Bool := decide ((1 ≤ a ∧ a ≤ 64) ∧ (⟨a, b⟩ : S24) ∈ l.take j)
theorem inB_succ (l : List S24) (a : Int) (b : ByteArray) (j : Nat) (h : j < l.length) : inB l a b (j + 1) = (inB l a b j || (same24 a b l[j] && decide (1 ≤ a ∧ a ≤ 64))) := by
  unfold inB
  rw [List.take_succ_eq_append_getElem h, Bool.eq_iff_iff, decide_eq_true_iff, Bool.or_eq_true, decide_eq_true_iff, Bool.and_eq_true, same_iff, decide_eq_true_iff, List.mem_append, List.mem_singleton]
  constructor
  · rintro ⟨h1, h2 | h2⟩
    · exact .inl ⟨h1, h2⟩
    · exact .inr ⟨h2.symm, h1⟩
  · rintro (⟨h1, h2⟩ | ⟨h1, h2⟩)
    · exact ⟨h1, .inl h2⟩
    · exact ⟨h2, .inr h1.symm⟩
theorem stays_loop (l : List S24) (a : Int) (b : ByteArray) (hl : l.length ≤ 5864062014700) (hs : ∀ x ∈ l, x.f1.size ≤ 4611686018427387904) (d : Nat) : ∀ j : Nat, j ≤ l.length → l.length - j = d →
    Ev (fun k => selvedgelaw06_BookStays.l0 k l true (putL [] (l.take j)) (inB l a b j) ((putL [] (l.take j)).length : Int) (j : Int) a b) true := by
  induction d with
  | zero =>
    intro j hj hd
    have hlen := len_putL (l.take j) []
    rw [List.length_take, List.length_nil] at hlen
    have hr : rightD (putL [] (l.take j)) (putL [] (l.take j)).length 0 = true := rightD_of (asc_putL _ _ List.Pairwise.nil) (fun x hx => by
      rw [mem_putL] at hx
      exact (hx.resolve_left (by simp)).1) _ _ (by omega)
    have hmem : ∀ x ∈ putL [] (l.take j), x.f1.size ≤ 4611686018427387904 := fun x hx => by
      rw [mem_putL] at hx
      exact hs x (List.mem_of_mem_take (hx.resolve_left (by simp)).2)
    refine Ev.step (f := fun k => (selvedgeref06_Right.f k (putL [] (l.take j))).bind fun t230 => (if true = true then (if t230 = true then (if ((putL [] (l.take j)).length : Int) = ((putL [] (l.take j)).length : Int) then ((book_Has.f k (putL [] (l.take j)) a b).bind fun t231 => (some (t231 == inB l a b j))) else (some false)) else (some false)) else (some false))) (fun k => by rw [selvedgelaw06_BookStays.l0, if_neg (by omega)]) ?_
    refine Ev.bind (refRight_ev _ (by omega) hmem) ?_
    simp only [if_true, hr]
    refine Ev.bind (has_ev a b _ (by omega)) ?_
    have e : (putL [] (l.take j)).any (same24 a b) = inB l a b j := by
      rw [any_same]
      unfold inB
      rw [decide_eq_decide, mem_putL]
      simp
    rw [e]
    simp only [beq_self_eq_true]
    exact Ev.now _
  | succ d ih =>
    intro j hj hd
    have hlt : j < l.length := by omega
    have hih := ih (j + 1) (by omega) (by omega)
    have hlen := len_putL (l.take j) []
    rw [List.length_take, List.length_nil] at hlen
    have hp := put_f (putL [] (l.take j)) l[j].f0 l[j].f1 (by omega)
    have hn := putL_take [] l j hlt
    have hlp := len_putB (putL [] (l.take j)) l[j].f0 l[j].f1
    have hin := inB_succ l a b j hlt
    rw [hn] at hih
    refine Ev.step (fun k => ?_) hih
    rw [selvedgelaw06_BookStays.l0, if_pos (by omega), if_pos (by omega), rd_eq l j hlt, hp]
    simp only [Option.bind_some]
    have hsame : (l[j].f0 == a && (l[j].f1.toList == b.toList)) = same24 a b l[j] := rfl
    rw [hsame, wrap_small (a := (j : Int) + 1) (by omega) (by omega), hin]
    have hcase : (if inB l a b j = true then true else if same24 a b l[j] = true then (if a ≥ 1 then decide (a ≤ 64) else false) else false) = (inB l a b j || (same24 a b l[j] && decide (1 ≤ a ∧ a ≤ 64))) := by
      cases inB l a b j <;> cases same24 a b l[j] <;> simp
    rw [← hcase]
    by_cases hg : ((putB (putL [] (l.take j)) l[j].f0 l[j].f1).length : Int) > ((putL [] (l.take j)).length : Int)
    · have hw : wrap64 (((putL [] (l.take j)).length : Int) + 1) = ((putB (putL [] (l.take j)) l[j].f0 l[j].f1).length : Int) := by
        rw [wrap_small (by omega) (by omega)]
        have := len_putB_le (putL [] (l.take j)) l[j].f0 l[j].f1
        omega
      rw [if_pos hg, hw]
      cases inB l a b j <;> cases same24 a b l[j] <;> by_cases h1 : a ≥ 1 <;> simp [h1]
    · have hw : ((putL [] (l.take j)).length : Int) = ((putB (putL [] (l.take j)) l[j].f0 l[j].f1).length : Int) := by omega
      rw [if_neg hg, ← hw]
      cases inB l a b j <;> cases same24 a b l[j] <;> by_cases h1 : a ≥ 1 <;> simp [h1]
theorem BookStays (l : List S24) (a : Int) (b : ByteArray) (hl : l.length ≤ 5864062014700) (hs : ∀ x ∈ l, x.f1.size ≤ 4611686018427387904) : ∃ k, selvedgelaw06_BookStays.f k l a b = some true := by
  refine Ev.rounds (g := fun k => selvedgelaw06_BookStays.f k l a b) ?_
  unfold selvedgelaw06_BookStays.f
  refine Ev.bind shown_ev ?_
  have h := stays_loop l a b hl hs l.length 0 (Nat.zero_le _) (by omega)
  have e : inB l a b 0 = false := by unfold inB; simp
  rw [e] at h
  exact h
end Go.Proofs.Ytigbkmbcoiodmaa.Pure
