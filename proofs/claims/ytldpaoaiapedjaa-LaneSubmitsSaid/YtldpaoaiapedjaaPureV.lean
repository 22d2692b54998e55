/- What the document's lane functions come to, in closed form: Seal, Submit, Ordered. Conditions: lengths below what memory holds. -/
import Derived.Test.YtldpaoaiapedjaaPureX
import Derived.Test.YtldpaoaiapedjaaQ12
namespace Go.Proofs.Ytldpaoaiapedjaa.Pure
open Go.RowKit Go.Proofs.Ytldpaoaiapedjaa.Q Go.Proofs.YtldpaoaiapedjaaW.PrintWords Go.Proofs.YtldpaoaiapedjaaW.PrintLast Go.Proofs.YtldpaoaiapedjaaW.PrintMore
theorem refSeal_f (a n : Int) (p : List ByteArray) (op : List S42) (hl : op.length ≤ 3518437208782) : R16_Seal.f a n p op = some (sealV a n p op) := by
  unfold R16_Seal.f sealV
  by_cases h0 : p.length = 0
  · rw [if_pos (by omega), if_pos h0]
  · rw [if_neg (by omega), if_neg h0, refLeft_is]
    simp only [Option.bind_some]
    by_cases h1 : leftD n op = true
    · rw [if_pos h1, if_pos h1, if_pos (by simp; omega), if_pos (by simp; omega)]
      rfl
    · rw [if_neg h1, if_neg h1]
theorem refSubmit_f (a n : Int) (p : List ByteArray) (op : List S42) (t : ByteArray) (hl : op.length ≤ 3518437208782) : R16_Submit.f a n p op t = some (subV a n p op t) := by
  unfold R16_Submit.f subV
  by_cases h0 : t.size = 0
  · rw [if_pos (by omega), if_pos h0]
  · rw [if_neg (by omega), if_neg h0]
    by_cases h1 : 48 < t.size
    · rw [if_pos (by omega), if_pos h1]
    · rw [if_neg (by omega), if_neg h1]
      by_cases h2 : 4 ≤ p.length
      · rw [if_pos (by omega), if_pos h2]
      · rw [if_neg (by omega), if_neg h2]
        simp only [Option.bind_some, List.nil_append, List.length_nil]
        rw [if_pos (by omega), if_pos (by omega)]
        unfold setV
        by_cases h4 : (p ++ [t]).length = 4
        · rw [if_pos (by omega), if_pos h4, refSeal_f _ _ _ _ hl]
          rfl
        · rw [if_neg (by omega), if_neg h4]
theorem less_succ (op : List S42) (seq : Int) (j : Nat) (h : j < op.length) : lessV (op.take (j + 1)) seq = lessV (op.take j) seq ++ if op[j].f1 = seq then [] else [op[j]] := by
  unfold lessV
  rw [List.take_succ_eq_append_getElem h, List.filter_append]
  congr 1
  by_cases h1 : op[j].f1 = seq <;> simp [h1]
theorem refOrdered_loop (seq a n : Int) (p : List ByteArray) (op : List S42) (hl : op.length ≤ 3518437208782) (d : Nat) : ∀ j : Nat, j ≤ op.length → op.length - j = d → Ev (fun k => R16_Ordered.l0 k seq (lessV (op.take j) seq) (j : Int) a n p op) (setV a n p (lessV op seq)) := by
  have hll := len_less op seq
  induction d with
  | zero =>
    intro j hj hd
    rw [List.take_of_length_le (by omega)]
    refine Ev.step (f := fun _ => some _) (fun k => ?_) (Ev.now _)
    rw [R16_Ordered.l0, if_neg (by omega)]
    unfold setV
    by_cases h4 : p.length = 4
    · rw [if_pos (by omega), if_pos h4, refSeal_f _ _ _ _ (by omega)]
      rfl
    · rw [if_neg (by omega), if_neg h4]
  | succ d ih =>
    intro j hj hd
    have h : j < op.length := by omega
    have hih := ih (j + 1) (by omega) (by omega)
    have hlt := len_less (op.take j) seq
    rw [List.length_take] at hlt
    rw [less_succ op seq j h] at hih
    refine Ev.step (fun k => ?_) hih
    rw [R16_Ordered.l0, if_pos (by omega), if_pos (by omega), rd_at42 op j h, wrap_small (by omega) (by omega)]
    by_cases h1 : op[j].f1 = seq
    · rw [if_pos h1, if_pos h1, List.append_nil]; rfl
    · rw [if_neg h1, if_neg h1, if_pos (by omega)]; rfl
theorem refOrdered_ev (a n : Int) (p : List ByteArray) (op : List S42) (seq : Int) (hl : op.length ≤ 3518437208782) : Ev (fun k => R16_Ordered.f k a n p op seq) (setV a n p (lessV op seq)) := by
  have := refOrdered_loop seq a n p op hl op.length 0 (Nat.zero_le _) (by omega)
  exact this
end Go.Proofs.Ytldpaoaiapedjaa.Pure
