/- What the lane's functions come to, in closed form: left, Seal, settled, Submit. Conditions: lengths below what memory holds. -/
import Derived.Test.YtldpaoaiapedjaaQ3
import Derived.Test.YtldpaoaiapedjaaQ5
namespace Go.Proofs.Ytldpaoaiapedjaa.Pure
open Go.RowKit Go.Proofs.Ytldpaoaiapedjaa.Q Go.Proofs.YtldpaoaiapedjaaW.PrintWords Go.Proofs.YtldpaoaiapedjaaW.PrintLast Go.Proofs.YtldpaoaiapedjaaW.PrintMore
theorem wrap_small {a : Int} (h0 : -9223372036854775808 ≤ a) (h1 : a < 9223372036854775808) : wrap64 a = a := by unfold wrap64; omega
theorem rd_at42 (l : List S42) (i : Nat) (h : i < l.length) : rd_T42 l (i : Int) = l[i] := by
  unfold rd_T42
  rw [Int.toNat_natCast, List.getD_eq_getElem?_getD, List.getElem?_eq_getElem h]
  rfl
theorem rdS_at (l : List ByteArray) (i : Nat) (h : i < l.length) : rdOf ByteArray.empty l (i : Int) = l[i] := by
  unfold rdOf
  rw [Int.toNat_natCast, List.getD_eq_getElem?_getD, List.getElem?_eq_getElem h]
  rfl
/-- Is a number left? -/
def leftD (n : Int) (op : List S42) : Bool := decide (n ≤ 1073741824) && (decide (op.length = 0) || decide (wrap64 (n - 8) < (rd_T42 op 0).f1))
theorem left_is (a n : Int) (p : List ByteArray) (op : List S42) : lane_left.f a n p op = some (leftD n op) := by
  unfold lane_left.f leftD
  by_cases h1 : n ≤ 1073741824
  · rw [if_pos h1, decide_eq_true h1, Bool.true_and]
    by_cases h2 : op.length = 0
    · rw [if_pos (by omega), decide_eq_true h2]; rfl
    · rw [if_neg (by omega), if_pos (by omega), decide_eq_false h2]; rfl
  · rw [if_neg h1, decide_eq_false h1]; rfl
theorem refLeft_is (a n : Int) (p : List ByteArray) (op : List S42) : R16_Left.f a n p op = some (leftD n op) := by
  unfold R16_Left.f leftD
  by_cases h1 : n ≤ 1073741824
  · rw [if_neg (by omega), decide_eq_true h1, Bool.true_and]
    by_cases h2 : op.length = 0
    · rw [if_pos (by omega), decide_eq_true h2]; rfl
    · rw [if_neg (by omega), if_pos (by omega), decide_eq_false h2]; rfl
  · rw [if_pos (by omega), decide_eq_false h1]; rfl
/-- A batch more. -/
def sealV (a n : Int) (p : List ByteArray) (op : List S42) : Int × Int × List ByteArray × List S42 × Int :=
  if p.length = 0 then (a, n, p, op, 7) else if leftD n op = true then (a, wrap64 (n + 1), [], op ++ [⟨a, n, p⟩], 0) else (a, n, p, op, 5)
theorem seal_f (a n : Int) (p : List ByteArray) (op : List S42) (hl : op.length ≤ 3518437208782) : lane_Seal.f a n p op = some (sealV a n p op) := by
  unfold lane_Seal.f sealV
  by_cases h0 : p.length = 0
  · rw [if_pos (by omega), if_pos h0]
  · rw [if_neg (by omega), if_neg h0, left_is]
    simp only [Option.bind_some]
    by_cases h1 : leftD n op = true
    · rw [if_pos h1, if_pos h1]
      unfold cloneB.f
      rw [if_pos (by omega)]
      simp only [Option.bind_some]
      rw [if_pos (by simp; omega)]
    · rw [if_neg h1, if_neg h1]
/-- The lane's pool isn't full, if a number is left. -/
def setV (a n : Int) (p : List ByteArray) (op : List S42) : Int × Int × List ByteArray × List S42 :=
  if p.length = 4 then ((sealV a n p op).1, (sealV a n p op).2.1, (sealV a n p op).2.2.1, (sealV a n p op).2.2.2.1) else (a, n, p, op)
theorem settled_f (a n : Int) (p : List ByteArray) (op : List S42) (hl : op.length ≤ 3518437208782) : lane_settled.f a n p op = some (setV a n p op) := by
  unfold lane_settled.f setV
  by_cases h0 : p.length = 4
  · rw [if_pos (by omega), if_pos h0, seal_f a n p op hl]; rfl
  · rw [if_neg (by omega), if_neg h0]
/-- A transaction more. -/
def subV (a n : Int) (p : List ByteArray) (op : List S42) (t : ByteArray) : Int × Int × List ByteArray × List S42 × Int :=
  if t.size = 0 then (a, n, p, op, 1) else if 48 < t.size then (a, n, p, op, 4) else if 4 ≤ p.length then (a, n, p, op, 5) else
    ((setV a n (p ++ [t]) op).1, (setV a n (p ++ [t]) op).2.1, (setV a n (p ++ [t]) op).2.2.1, (setV a n (p ++ [t]) op).2.2.2, 0)
theorem nil_size (t : ByteArray) : t.toList = ([] : List UInt8) ↔ t.size = 0 := ⟨fun h => Classical.byContradiction fun hn => size_ne t hn h, size_nil t⟩
theorem submit_f (a n : Int) (p : List ByteArray) (op : List S42) (t : ByteArray) (hl : op.length ≤ 3518437208782) : lane_Submit.f a n p op t = some (subV a n p op t) := by
  unfold lane_Submit.f subV lane_Full.f
  by_cases h0 : t.size = 0
  · rw [if_pos ((nil_size t).2 h0), if_pos h0]
  · rw [if_neg (fun h => h0 ((nil_size t).1 h)), if_neg h0]
    by_cases h1 : 48 < t.size
    · rw [if_pos (by omega), if_pos h1]
    · rw [if_neg (by omega), if_neg h1]
      simp only [Option.bind_some]
      by_cases h2 : 4 ≤ p.length
      · rw [if_pos (by rw [decide_eq_true_iff]; omega), if_pos h2]
      · rw [if_neg (by rw [decide_eq_true_iff]; omega), if_neg h2]
        unfold cloneS.f
        rw [if_pos (by omega)]
        simp only [Option.bind_some]
        rw [if_pos (by omega), settled_f _ _ _ _ hl]
        rfl
/-- Those of another number. -/
def lessV (op : List S42) (seq : Int) : List S42 := op.filter (fun x => !decide (x.f1 = seq))
theorem len_less (op : List S42) (seq : Int) : (lessV op seq).length ≤ op.length := List.length_filter_le _ _
/-- What settled does: it leaves the lane, or makes a batch. -/
theorem set_cases (a n : Int) (p : List ByteArray) (op : List S42) : (setV a n p op = (a, n, p, op) ∧ (p.length = 4 → leftD n op = false)) ∨ (setV a n p op = (a, wrap64 (n + 1), [], op ++ [⟨a, n, p⟩]) ∧ p.length = 4 ∧ leftD n op = true) := by
  unfold setV sealV
  by_cases h0 : p.length = 4
  · rw [if_pos h0, if_neg (by omega)]
    cases h1 : leftD n op with
    | true => right; exact ⟨rfl, h0, rfl⟩
    | false => left; exact ⟨rfl, fun _ => rfl⟩
  · left; rw [if_neg h0]; exact ⟨rfl, fun h => absurd h h0⟩
end Go.Proofs.Ytldpaoaiapedjaa.Pure
