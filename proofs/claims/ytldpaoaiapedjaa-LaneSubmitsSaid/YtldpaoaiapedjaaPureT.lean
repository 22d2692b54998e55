/- Rows of texts and of batches are the same just if they are equal: the document's way. Condition: lengths below what memory holds. -/
import Derived.Test.YtldpaoaiapedjaaQ7
namespace Go.Proofs.Ytldpaoaiapedjaa.Pure
open Go.RowKit Go.Proofs.Ytldpaoaiapedjaa.Q Go.Proofs.YtldpaoaiapedjaaW.PrintWords Go.Proofs.YtldpaoaiapedjaaW.PrintLast Go.Proofs.YtldpaoaiapedjaaW.PrintMore
theorem wrap_small' {a : Int} (h0 : -9223372036854775808 ≤ a) (h1 : a < 9223372036854775808) : wrap64 a = a := by unfold wrap64; omega
theorem rdS_at' (l : List ByteArray) (i : Nat) (h : i < l.length) : rdOf ByteArray.empty l (i : Int) = l[i] := by
  unfold rdOf
  rw [Int.toNat_natCast, List.getD_eq_getElem?_getD, List.getElem?_eq_getElem h]
  rfl
theorem bytes_eq {x y : ByteArray} (h : x.toList = y.toList) : x = y := by
  rw [ByteArray.toList_eq, ByteArray.toList_eq] at h
  apply ByteArray.ext
  exact Array.toList_inj.1 h
/-- One more place that agrees. -/
theorem drop_eq {α : Type} [DecidableEq α] (l m : List α) (j : Nat) (hl : j < l.length) (hm : j < m.length) : decide (l.drop j = m.drop j) = if l[j] = m[j] then decide (l.drop (j + 1) = m.drop (j + 1)) else false := by
  rw [List.drop_eq_getElem_cons hl, List.drop_eq_getElem_cons hm]
  by_cases h : l[j] = m[j]
  · rw [if_pos h, h, Bool.eq_iff_iff, decide_eq_true_iff, decide_eq_true_iff]
    exact ⟨fun h => (List.cons.inj h).2, fun h => by rw [h]⟩
  · rw [if_neg h, decide_eq_false_iff_not]
    exact fun e => h (List.cons.inj e).1
theorem drop_end {α : Type} [DecidableEq α] (l m : List α) (j : Nat) (hl : l.length = j) (hm : m.length = j) : decide (l.drop j = m.drop j) = true := by
  rw [List.drop_eq_nil_of_le (by omega), List.drop_eq_nil_of_le (by omega)]
  exact decide_eq_true rfl
theorem refSame1_loop (l m : List ByteArray) (hl : l.length ≤ 9223372036854775806) (hm : l.length = m.length) (d : Nat) : ∀ j : Nat, j ≤ l.length → l.length - j = d → Ev (fun k => R01_Same.l0 k l m (j : Int)) (decide (l.drop j = m.drop j)) := by
  induction d with
  | zero =>
    intro j hj hd
    rw [drop_end l m j (by omega) (by omega)]
    refine Ev.step (f := fun _ => some _) (fun k => ?_) (Ev.now _)
    rw [R01_Same.l0, if_neg (by omega)]
  | succ d ih =>
    intro j hj hd
    rw [drop_eq l m j (by omega) (by omega)]
    by_cases h : l[j] = m[j]
    · rw [if_pos h]
      refine Ev.step (fun k => ?_) (ih (j + 1) (by omega) (by omega))
      rw [R01_Same.l0, if_pos (by omega), if_pos (by omega), if_pos (by omega), rdS_at' l j (by omega), rdS_at' m j (by omega), if_pos (by rw [h]), wrap_small' (by omega) (by omega)]
      rfl
    · rw [if_neg h]
      refine Ev.step (f := fun _ => some _) (fun k => ?_) (Ev.now _)
      rw [R01_Same.l0, if_pos (by omega), if_pos (by omega), if_pos (by omega), rdS_at' l j (by omega), rdS_at' m j (by omega), if_neg (fun e => h (bytes_eq e))]
theorem refSame1_ev (l m : List ByteArray) (hl : l.length ≤ 9223372036854775806) : Ev (fun k => R01_Same.f k l m) (decide (l = m)) := by
  unfold R01_Same.f
  by_cases h : l.length = m.length
  · simp only [if_pos (show (l.length : Int) = (m.length : Int) by omega)]
    exact refSame1_loop l m hl h l.length 0 (Nat.zero_le _) (by omega)
  · simp only [if_neg (show ¬ (l.length : Int) = (m.length : Int) by omega)]
    rw [show decide (l = m) = false from decide_eq_false (fun e => h (by rw [e]))]
    exact Ev.now _
end Go.Proofs.Ytldpaoaiapedjaa.Pure
