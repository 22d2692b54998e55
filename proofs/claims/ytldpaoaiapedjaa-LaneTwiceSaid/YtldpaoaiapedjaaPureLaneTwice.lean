/- LaneTwice: what the law comes to is true at every lane and number. Conditions: lengths below what memory holds. -/
import Derived.Test.YtldpaoaiapedjaaPureE
import Derived.Test.YtldpaoaiapedjaaPureO
import Derived.Test.YtldpaoaiapedjaaQ20
namespace Go.Proofs.Ytldpaoaiapedjaa.Pure
open Go.RowKit Go.Proofs.Ytldpaoaiapedjaa.Q Go.Proofs.YtldpaoaiapedjaaW.PrintWords Go.Proofs.YtldpaoaiapedjaaW.PrintLast Go.Proofs.YtldpaoaiapedjaaW.PrintMore
set_option linter.unusedVariables false
set_option linter.unusedSimpArgs false
theorem less_no (op : List S42) (seq : Int) (h : ∀ x ∈ op, x.f1 ≠ seq) : lessV op seq = op := by
  unfold lessV
  rw [List.filter_eq_self]
  intro x hx
  rw [decide_eq_false (h x hx)]
  rfl
theorem less_mem {op : List S42} {seq : Int} {x : S42} (h : x ∈ lessV op seq) : x ∈ op ∧ x.f1 ≠ seq := by
  unfold lessV at h
  rw [List.mem_filter] at h
  refine ⟨h.1, fun e => ?_⟩
  have := h.2
  rw [decide_eq_true e] at this
  cases this
theorem twice_loop (seq : Int) (a n : Int) (p : List ByteArray) (op : List S42) (hl : op.length ≤ 9223372036854775806) (hp : p.length ≤ 9223372036854775806) (hs : shortE op) (hn : ∀ x ∈ op, x.f1 ≠ seq) (d : Nat) : ∀ j : Nat, j ≤ op.length → op.length - j = d → Ev (fun k => L16_LaneTwice.l0 k seq true (j : Int) a n p op a n p op) true := by
  induction d with
  | zero =>
    intro j hj hd
    refine Ev.step (f := fun k => (lane_Same.f k a n p op a n p op).bind fun t => (some t)) (fun k => ?_) ?_
    · rw [L16_LaneTwice.l0, if_neg (by omega), if_pos rfl]
    · refine Ev.bind (laneSame_self a n p op hp hl hs) ?_
      exact Ev.now _
  | succ d ih =>
    intro j hj hd
    have h : j < op.length := by omega
    refine Ev.step (fun k => ?_) (ih (j + 1) (by omega) (by omega))
    rw [L16_LaneTwice.l0, if_pos (by omega), if_pos (by omega), rd_at42 op j h, if_neg (hn _ (List.getElem_mem h)), wrap_small (by omega) (by omega)]
    rfl
/-- Ordered again: nothing changes. -/
theorem set_twice (a n : Int) (p : List ByteArray) (op : List S42) (seq : Int) (h0 : 1 ≤ n) (h1 : n ≤ 1099511627776) (h2 : seq < n) :
    ∃ n' p' op', setV a n p (lessV op seq) = (a, n', p', op') ∧ setV a n' p' (lessV op' seq) = (a, n', p', op') ∧ (∀ x ∈ op', x.f1 ≠ seq) := by
  have hn : ∀ x ∈ lessV op seq, x.f1 ≠ seq := fun x hx => (less_mem hx).2
  rcases set_cases a n p (lessV op seq) with ⟨e, h⟩ | ⟨e, h4, hleft⟩
  · refine ⟨n, p, lessV op seq, e, ?_, hn⟩
    rw [less_no _ _ hn]
    exact e
  · have hn' : ∀ x ∈ lessV op seq ++ [⟨a, n, p⟩], x.f1 ≠ seq := by
      intro x hx
      rcases List.mem_append.1 hx with hx | hx
      · exact hn x hx
      · rw [List.mem_singleton.1 hx]
        show n ≠ seq
        omega
    refine ⟨_, _, _, e, ?_, hn'⟩
    rw [less_no _ _ hn']
    unfold setV
    rw [if_neg (by simp)]
theorem twice_j (seq : Int) (b : Bool) (a n : Int) (p : List ByteArray) (op : List S42) (hl : op.length ≤ 3518437208781) (hp : p.length ≤ 9223372036854775806) (hs : shortE op) (h : b = false → 1 ≤ n ∧ n ≤ 1099511627776 ∧ seq < n) : Ev (fun k => L16_LaneTwice.j0 k seq true b a n p op) true := by
  cases b with
  | true =>
    refine Ev.step (f := fun _ => some _) (fun k => ?_) (Ev.now _)
    rw [L16_LaneTwice.j0, if_pos rfl]
  | false =>
    obtain ⟨h0, h1, h2⟩ := h rfl
    obtain ⟨n', p', op', e1, e2, hn⟩ := set_twice a n p op seq h0 h1 h2
    have hll := len_less op seq
    have hcase : op'.length ≤ 3518437208782 ∧ p'.length ≤ 9223372036854775806 ∧ shortE op' := by
      rcases set_cases a n p (lessV op seq) with ⟨e, _⟩ | ⟨e, h4, _⟩
      · rw [e] at e1
        simp only [Prod.mk.injEq] at e1
        obtain ⟨_, rfl, rfl, rfl⟩ := e1
        exact ⟨by omega, hp, fun x hx => hs x (less_mem hx).1⟩
      · rw [e] at e1
        simp only [Prod.mk.injEq] at e1
        obtain ⟨_, rfl, rfl, rfl⟩ := e1
        refine ⟨by simp; omega, by simp, fun x hx => ?_⟩
        rcases List.mem_append.1 hx with hx | hx
        · exact hs x (less_mem hx).1
        · rw [List.mem_singleton.1 hx]; exact hp
    refine Ev.step (fun k => ?_) (twice_loop seq a n' p' op' (by omega) hcase.2.1 hcase.2.2 hn op'.length 0 (Nat.zero_le _) (by omega))
    rw [L16_LaneTwice.j0, if_neg (by decide), ordered_f a n p op seq (by omega), e1]
    simp only [Option.bind_some]
    rw [ordered_f a n' p' op' seq hcase.1, e2]
    rfl
theorem LaneTwice (a n : Int) (p : List ByteArray) (op : List S42) (seq : Int) (hl : op.length ≤ 3518437208781) (hp : p.length ≤ 9223372036854775806) (hs : shortE op) : ∃ k, L16_LaneTwice.f k a n p op seq = some true := by
  refine Ev.rounds (g := fun k => L16_LaneTwice.f k a n p op seq) ?_
  unfold L16_LaneTwice.f L16_shown.f
  simp only [Option.bind_some]
  by_cases h1 : n > 1099511627776
  · simp only [if_pos h1]; exact twice_j seq true a n p op hl hp hs (fun h => by cases h)
  · simp only [if_neg h1]
    by_cases h2 : n < 1
    · simp only [if_pos h2]; exact twice_j seq true a n p op hl hp hs (fun h => by cases h)
    · simp only [if_neg h2]
      exact twice_j seq _ a n p op hl hp hs (fun h => ⟨by omega, by omega, by have := of_decide_eq_false h; omega⟩)
end Go.Proofs.Ytldpaoaiapedjaa.Pure
