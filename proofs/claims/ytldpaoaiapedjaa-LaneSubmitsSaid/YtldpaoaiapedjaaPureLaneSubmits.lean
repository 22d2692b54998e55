/- LaneSubmits: what the law comes to is true at every lane, text, number and count. Conditions: lengths below what memory holds. -/
import Derived.Test.YtldpaoaiapedjaaPureV
import Derived.Test.YtldpaoaiapedjaaPureO
import Derived.Test.YtldpaoaiapedjaaQ14
namespace Go.Proofs.Ytldpaoaiapedjaa.Pure
open Go.RowKit Go.Proofs.Ytldpaoaiapedjaa.Q Go.Proofs.YtldpaoaiapedjaaW.PrintWords Go.Proofs.YtldpaoaiapedjaaW.PrintLast Go.Proofs.YtldpaoaiapedjaaW.PrintMore
theorem refPick_loop (many a n : Int) (p : List ByteArray) (op : List S42) (hl : op.length ≤ 3518437208782) (d : Nat) : ∀ j : Nat, j ≤ op.length → (j : Int) ≤ (many.toNat : Int) → op.length - j = d → Ev (fun k => R16_Pick.l0 k many (op.take j) (j : Int) a n p op) (pickV op many) := by
  unfold pickV
  induction d with
  | zero =>
    intro j hj hm hd
    rw [List.take_of_length_le (by omega), List.take_of_length_le (by omega)]
    refine Ev.step (f := fun _ => some _) (fun k => ?_) (Ev.now _)
    rw [R16_Pick.l0, if_neg (by omega)]
  | succ d ih =>
    intro j hj hm hd
    have h : j < op.length := by omega
    by_cases h1 : (j : Int) < many
    · have hih := ih (j + 1) (by omega) (by omega) (by omega)
      rw [List.take_succ_eq_append_getElem h] at hih
      refine Ev.step (fun k => ?_) hih
      rw [R16_Pick.l0, if_pos (by omega), if_pos h1, if_pos (by omega), if_pos (by rw [List.length_take]; omega), rd_at42 op j h, wrap_small (by omega) (by omega)]
      rfl
    · have e : many.toNat = j := by omega
      rw [e]
      refine Ev.step (f := fun _ => some _) (fun k => ?_) (Ev.now _)
      rw [R16_Pick.l0, if_pos (by omega), if_neg h1]
theorem refPick_ev (a n : Int) (p : List ByteArray) (op : List S42) (many : Int) (hl : op.length ≤ 3518437208782) : Ev (fun k => R16_Pick.f k a n p op many) (pickV op many) := by
  have := refPick_loop many a n p op hl op.length 0 (Nat.zero_le _) (by omega) (by omega)
  exact this
/-- What comes out of a step is as short as what came in, but for one batch. -/
theorem seal_short {a n : Int} {p : List ByteArray} {op : List S42} (hp : p.length ≤ 9223372036854775806) (hs : short op) : (sealV a n p op).2.2.1.length ≤ 9223372036854775806 ∧ (sealV a n p op).2.2.2.1.length ≤ op.length + 1 ∧ short (sealV a n p op).2.2.2.1 := by
  unfold sealV
  split
  · exact ⟨hp, by simp, hs⟩
  · split
    · refine ⟨by simp, by simp, fun x hx => ?_⟩
      rcases List.mem_append.1 hx with hx | hx
      · exact hs x hx
      · rw [List.mem_singleton.1 hx]; exact hp
    · exact ⟨hp, by simp, hs⟩
theorem set_short {a n : Int} {p : List ByteArray} {op : List S42} (hp : p.length ≤ 9223372036854775806) (hs : short op) : (setV a n p op).2.2.1.length ≤ 9223372036854775806 ∧ (setV a n p op).2.2.2.length ≤ op.length + 1 ∧ short (setV a n p op).2.2.2 := by
  unfold setV
  split
  · exact seal_short hp hs
  · exact ⟨hp, by simp, hs⟩
theorem sub_short {a n : Int} {p : List ByteArray} {op : List S42} {t : ByteArray} (hp : p.length ≤ 9223372036854775806) (hs : short op) : (subV a n p op t).2.2.1.length ≤ 9223372036854775806 ∧ (subV a n p op t).2.2.2.1.length ≤ op.length + 1 ∧ short (subV a n p op t).2.2.2.1 := by
  unfold subV
  by_cases h0 : t.size = 0
  · rw [if_pos h0]; exact ⟨hp, by simp, hs⟩
  · rw [if_neg h0]
    by_cases h1 : 48 < t.size
    · rw [if_pos h1]; exact ⟨hp, by simp, hs⟩
    · rw [if_neg h1]
      by_cases h2 : 4 ≤ p.length
      · rw [if_pos h2]; exact ⟨hp, by simp, hs⟩
      · rw [if_neg h2]; exact set_short (a := a) (n := n) (p := p ++ [t]) (by rw [List.length_append]; simp; omega) hs
theorem same16_of (x : Int × Int × List ByteArray × List S42 × Int) (m : Nat) (hm : m ≤ 3518437208782) (h : x.2.2.1.length ≤ 9223372036854775806 ∧ x.2.2.2.1.length ≤ m + 1 ∧ short x.2.2.2.1) : Ev (fun k => R16_Same.f k x.1 x.2.1 x.2.2.1 x.2.2.2.1 x.1 x.2.1 x.2.2.1 x.2.2.2.1) true :=
  refSame16_self _ _ _ _ h.1 (by omega) h.2.2
theorem submits_j1 (seq many a n : Int) (p : List ByteArray) (op : List S42) (e g : Int) (hl : op.length ≤ 3518437208782) (hp : p.length ≤ 9223372036854775806) (hs : short op) : Ev (fun k => L16_LaneSubmits.j1 k seq many true e e g g true a n p op) true := by
  have hll := len_less op seq
  have hsl : short (lessV op seq) := fun x hx => hs x (List.mem_filter.1 hx).1
  have h1 := set_short (a := a) (n := n) hp hsl
  have hpk : (pickV op many).length ≤ op.length := by unfold pickV; rw [List.length_take]; omega
  have hsp : short (pickV op many) := short_take hs _
  refine Ev.step (f := fun k => (R16_Ordered.f k a n p op seq).bind fun bt389 => ((R16_Same.f k (setV a n p (lessV op seq)).1 (setV a n p (lessV op seq)).2.1 (setV a n p (lessV op seq)).2.2.1 (setV a n p (lessV op seq)).2.2.2 bt389.1 bt389.2.1 bt389.2.2.1 bt389.2.2.2).bind fun t397 => ((R16_Pick.f k a n p op many).bind fun t401 => ((R07_SameAll.f k (pickV op many) t401).bind fun t404 => (if t397 = true then (if t404 = true then (some true) else (some false)) else (some false)))))) (fun k => ?_) ?_
  · rw [L16_LaneSubmits.j1, ordered_f a n p op seq hl]
    simp only [Option.bind_some]
    rw [pick_f a n p op many hl]
    simp only [Option.bind_some, if_true, beq_self_eq_true]
  · refine Ev.bind (refOrdered_ev a n p op seq hl) ?_
    refine Ev.bind (refSame16_self _ _ _ _ h1.1 (by omega) h1.2.2) ?_
    refine Ev.bind (refPick_ev a n p op many hl) ?_
    refine Ev.bind (same_self _ (by omega) hsp) ?_
    simp only [if_true]
    exact Ev.now _
theorem submits_j0 (t : ByteArray) (seq many a n : Int) (p : List ByteArray) (op : List S42) (b : Bool) (hl : op.length ≤ 3518437208781) (hp : p.length ≤ 9223372036854775806) (hs : short op) : Ev (fun k => L16_LaneSubmits.j0 k t seq many true b a n p op) true := by
  cases b with
  | true =>
    refine Ev.step (f := fun _ => some _) (fun k => ?_) (Ev.now _)
    rw [L16_LaneSubmits.j0, if_pos rfl]
  | false =>
    have h1 := sub_short (a := a) (n := n) (t := t) hp hs
    have h2 := seal_short (a := a) (n := n) hp hs
    refine Ev.step (f := fun k => (R16_Same.f k (subV a n p op t).1 (subV a n p op t).2.1 (subV a n p op t).2.2.1 (subV a n p op t).2.2.2.1 (subV a n p op t).1 (subV a n p op t).2.1 (subV a n p op t).2.2.1 (subV a n p op t).2.2.2.1).bind fun t379 => (if t379 = true then ((R16_Same.f k (sealV a n p op).1 (sealV a n p op).2.1 (sealV a n p op).2.2.1 (sealV a n p op).2.2.2.1 (sealV a n p op).1 (sealV a n p op).2.1 (sealV a n p op).2.2.1 (sealV a n p op).2.2.2.1).bind fun t380 => (L16_LaneSubmits.j1 k seq many true (subV a n p op t).2.2.2.2 (subV a n p op t).2.2.2.2 (sealV a n p op).2.2.2.2 (sealV a n p op).2.2.2.2 t380 a n p op)) else (L16_LaneSubmits.j1 k seq many true (subV a n p op t).2.2.2.2 (subV a n p op t).2.2.2.2 (sealV a n p op).2.2.2.2 (sealV a n p op).2.2.2.2 false a n p op))) (fun k => ?_) ?_
    · rw [L16_LaneSubmits.j0, if_neg (by decide), submit_f a n p op t (by omega)]
      simp only [Option.bind_some]
      rw [refSubmit_f a n p op t (by omega)]
      simp only [Option.bind_some]
      rw [seal_f a n p op (by omega)]
      simp only [Option.bind_some]
      rw [refSeal_f a n p op (by omega)]
      simp only [Option.bind_some]
    · refine Ev.bind (same16_of _ op.length (by omega) h1) ?_
      simp only [if_true]
      refine Ev.bind (same16_of _ op.length (by omega) h2) ?_
      exact submits_j1 seq many a n p op _ _ (by omega) hp hs
theorem LaneSubmits (a n : Int) (p : List ByteArray) (op : List S42) (t : ByteArray) (seq many : Int) (hl : op.length ≤ 3518437208781) (hp : p.length ≤ 9223372036854775806) (hs : short op) : ∃ k, L16_LaneSubmits.f k a n p op t seq many = some true := by
  refine Ev.rounds (g := fun k => L16_LaneSubmits.f k a n p op t seq many) ?_
  unfold L16_LaneSubmits.f L16_shown.f
  simp only [Option.bind_some]
  by_cases h1 : n > 1099511627776
  · simp only [if_pos h1]; exact submits_j0 t seq many a n p op true hl hp hs
  · simp only [if_neg h1]; exact submits_j0 t seq many a n p op _ hl hp hs
end Go.Proofs.Ytldpaoaiapedjaa.Pure
