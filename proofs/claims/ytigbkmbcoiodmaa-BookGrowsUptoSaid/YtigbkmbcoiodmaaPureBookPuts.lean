/- BookPuts: what the law comes to is true at every book and seal; conditions: the book's length is below 5864062014700, its texts' sizes and the seal's below 2^62. -/
import Derived.Test.YtigbkmbcoiodmaaPureBookTwice
import Derived.Test.YtigbkmbcoiodmaaQ7
namespace Go.Proofs.Ytigbkmbcoiodmaa.Pure
open Go.RowKit Go.Proofs.Ytigbkmbcoiodmaa.Q Go.Proofs.YtigbkmbcoiodmaaW.PrintWords Go.Proofs.YtigbkmbcoiodmaaW.PrintLast Go.Proofs.YtigbkmbcoiodmaaW.PrintMore
theorem drop_bytes (x : ByteArray) (i : Nat) (h : i < x.size) : x.toList.drop i = x[i] :: x.toList.drop (i + 1) := by
  rw [ByteArray.toList_eq]
  have hl : i < x.data.toList.length := by simpa using h
  rw [List.drop_eq_getElem_cons hl]
  rfl
theorem bt_nat (x : ByteArray) (i : Nat) (h : i < x.size) : bt x (i : Int) = ((x[i]).toNat : Int) := by
  unfold bt
  have h' : (i : Int).toNat < x.size := by omega
  rw [dif_pos h']
  simp only [Int.toNat_natCast]
theorem len_bytes (x : ByteArray) : x.toList.length = x.size := by rw [ByteArray.toList_eq]; simp
theorem less_loop (x y : ByteArray) (hx : x.size ≤ 4611686018427387904) (hy : y.size ≤ 4611686018427387904) (d : Nat) : ∀ i : Nat, i ≤ x.size → i ≤ y.size → x.size - i = d →
    Ev (fun k => selvedgeref01_Less.l0 k x y (i : Int)) (Op.bytesLess (x.toList.drop i) (y.toList.drop i)) := by
  have fin : ∀ i : Nat, Ev (fun k => selvedgeref01_Less.j1 k x y (i : Int) false) (decide (x.size < y.size)) := fun i => by
    refine Ev.step (f := fun _ => some _) (fun k => ?_) (Ev.now _)
    rw [selvedgeref01_Less.j1, if_neg (by decide)]
    congr 1
    rw [decide_eq_decide]
    omega
  induction d with
  | zero =>
    intro i hi hi' hd
    have e : Op.bytesLess (x.toList.drop i) (y.toList.drop i) = decide (x.size < y.size) := by
      rw [List.drop_of_length_le (by rw [len_bytes]; omega)]
      by_cases h : i < y.size
      · rw [drop_bytes y i h, decide_eq_true (by omega)]; rfl
      · rw [List.drop_of_length_le (by rw [len_bytes]; omega), decide_eq_false (by omega)]; rfl
    rw [e]
    refine Ev.step (fun k => ?_) (fin i)
    rw [selvedgeref01_Less.l0, if_neg (by omega)]
  | succ d ih =>
    intro i hi hi' hd
    by_cases h : i < y.size
    · have hx' : i < x.size := by omega
      have st : ∀ k, selvedgeref01_Less.l0 (k + 1) x y (i : Int) = selvedgeref01_Less.j1 k x y (i : Int) true := fun k => by
        rw [selvedgeref01_Less.l0, if_pos (by omega), decide_eq_true (by omega)]
      refine Ev.step st ?_
      rw [drop_bytes x i hx', drop_bytes y i h]
      by_cases he : x[i] = y[i]
      · have e2 : Op.bytesLess (x[i] :: x.toList.drop (i + 1)) (y[i] :: y.toList.drop (i + 1)) = Op.bytesLess (x.toList.drop (i + 1)) (y.toList.drop (i + 1)) := by
          simp [Op.bytesLess, he]
        rw [e2]
        refine Ev.step (fun k => ?_) (ih (i + 1) (by omega) (by omega) (by omega))
        rw [selvedgeref01_Less.j1, if_pos rfl, if_pos (by omega), if_pos (by omega), if_pos (by omega), bt_nat x i hx', bt_nat y i h, if_pos (by rw [he]), wrap_small (by omega) (by omega)]
        rfl
      · refine Ev.step (f := fun _ => some _) (fun k => ?_) (Ev.now _)
        have hne : ¬ ((x[i].toNat : Int) = (y[i].toNat : Int)) := fun h' => he (UInt8.toNat_inj.1 (by omega))
        rw [selvedgeref01_Less.j1, if_pos rfl, if_pos (by omega), if_pos (by omega), if_pos (by omega), bt_nat x i hx', bt_nat y i h, if_neg hne]
        congr 1
        rw [Op.bytesLess, show (x[i] == y[i]) = false from by simp [he], Bool.false_and, Bool.or_false, decide_eq_decide, UInt8.lt_iff_toNat_lt]
        omega
    · have e : Op.bytesLess (x.toList.drop i) (y.toList.drop i) = decide (x.size < y.size) := by
        rw [drop_bytes x i (by omega), List.drop_of_length_le (l := y.toList) (by rw [len_bytes]; omega), decide_eq_false (by omega)]; rfl
      rw [e]
      refine Ev.step (fun k => ?_) (fin i)
      rw [selvedgeref01_Less.l0, if_pos (by omega), decide_eq_false (by omega)]
theorem less_ev (x y : ByteArray) (hx : x.size ≤ 4611686018427387904) (hy : y.size ≤ 4611686018427387904) : Ev (fun k => selvedgeref01_Less.f k x y) (Op.bytesLess x.toList y.toList) := by
  have := less_loop x y hx hy x.size 0 (Nat.zero_le _) (Nat.zero_le _) (by omega)
  exact this
theorem refAhead_ev (a : Int) (b : ByteArray) (x : S24) (hb : b.size ≤ 4611686018427387904) (hx : x.f1.size ≤ 4611686018427387904) : Ev (fun k => selvedgeref06_Ahead.f k a b x.f0 x.f1) (aheadB a b x) := by
  unfold selvedgeref06_Ahead.f
  refine Ev.bind (less_ev b x.f1 hb hx) ?_
  unfold aheadB
  by_cases h1 : a < x.f0
  · simp only [if_pos h1, decide_eq_true h1, Bool.true_or]; exact Ev.now _
  · by_cases h2 : a = x.f0
    · simp only [if_neg h1, if_pos h2, decide_eq_false h1, Bool.false_or, beq_iff_eq.2 h2, Bool.true_and]; exact Ev.now _
    · simp only [if_neg h1, if_neg h2, decide_eq_false h1, Bool.false_or, beq_eq_false_iff_ne.2 h2, Bool.false_and]; exact Ev.now _
/-- The three appends of the document's Put. -/
theorem ins_is (l : List S24) (a : Int) (b : ByteArray) (j : Nat) (hj : j ≤ l.length) (hl : l.length ≤ 5864062014700) :
    ((some (([] : List (S24)) : List (S24))).bind fun y136 => (if (j : Int) ≤ (l.length : Int) then ((some (l.take (j : Int).toNat : List (S24))).bind fun y139 => (if y136.length + y139.length < 5864062014805 then ((some (y136 ++ y139 : List (S24))).bind fun y144 => (if y144.length < 5864062014805 then ((some (y144 ++ [(⟨a, b⟩ : S24)] : List (S24))).bind fun y147 => ((some (l.drop (j : Int).toNat : List (S24))).bind fun y150 => (if y147.length + y150.length < 5864062014805 then (some (y147 ++ y150)) else (none)))) else (none))) else (none))) else (none)))
      = some (l.take j ++ ⟨a, b⟩ :: l.drop j) := by
  have h1 : (l.take j).length = j := by rw [List.length_take]; omega
  have h2 : (l.drop j).length = l.length - j := List.length_drop
  simp only [Option.bind_some, Int.toNat_natCast, List.nil_append, List.length_nil]
  rw [if_pos (by omega), if_pos (by omega), if_pos (by omega), if_pos (by rw [List.length_append, h1, h2]; simp; omega)]
  simp
theorem refPut_loop (l : List S24) (a : Int) (b : ByteArray) (hl : l.length ≤ 5864062014700) (hb : b.size ≤ 4611686018427387904) (hs : ∀ x ∈ l, x.f1.size ≤ 4611686018427387904) (d : Nat) : ∀ j : Nat, j ≤ l.length → l.length - j = d → j ≤ l.findIdx (aheadB a b) →
    Ev (fun k => selvedgeref06_Put.l0 k l (j : Int) a b) (l.take (l.findIdx (aheadB a b)) ++ ⟨a, b⟩ :: l.drop (l.findIdx (aheadB a b))) := by
  induction d with
  | zero =>
    intro j hj hd hf
    have hle := List.findIdx_le_length (xs := l) (p := aheadB a b)
    have e : l.findIdx (aheadB a b) = j := by omega
    rw [e]
    refine Ev.step (f := fun _ => some _) (fun k => ?_) (Ev.now _)
    have hi := ins_is l a b j hj hl
    rw [selvedgeref06_Put.l0, if_neg (by omega)]
    simp only [Option.bind_some] at hi ⊢
    rw [if_pos (by omega)]
    exact hi
  | succ d ih =>
    intro j hj hd hf
    have hlt : j < l.length := by omega
    have hm : l[j] ∈ l := List.getElem_mem hlt
    refine Ev.step (f := fun k => (selvedgeref06_Ahead.f k a b l[j].f0 l[j].f1).bind fun t135 => (if t135 = true then some (l.take j ++ ⟨a, b⟩ :: l.drop j) else (selvedgeref06_Put.l0 k l (wrap64 ((j : Int) + 1)) a b))) (fun k => ?_) ?_
    · rw [selvedgeref06_Put.l0, if_pos (by omega), if_pos (by omega), rd_eq l j hlt]
      congr 1
      funext t
      split
      · exact ins_is l a b j hj hl
      · rfl
    · refine Ev.bind (refAhead_ev a b l[j] hb (hs _ hm)) ?_
      cases hq : aheadB a b l[j] with
      | true =>
        have e : l.findIdx (aheadB a b) = j := by
          rcases Nat.lt_or_ge j (l.findIdx (aheadB a b)) with h | h
          · have := List.not_of_lt_findIdx h
            rw [hq] at this
            simp at this
          · omega
        simp only [if_true]
        rw [e]
        exact Ev.now _
      | false =>
        simp only [if_neg (show ¬ (false = true) by decide)]
        rw [wrap_small (by omega) (by omega)]
        refine ih (j + 1) (by omega) (by omega) ?_
        rcases Nat.lt_or_ge j (l.findIdx (aheadB a b)) with h | h
        · exact h
        · exfalso
          have e : l.findIdx (aheadB a b) = j := by omega
          have := List.findIdx_getElem (xs := l) (p := aheadB a b) (w := by omega)
          simp only [e] at this
          rw [hq] at this
          cases this
theorem refPut_ev (l : List S24) (a : Int) (b : ByteArray) (hl : l.length ≤ 5864062014700) (hb : b.size ≤ 4611686018427387904) (hs : ∀ x ∈ l, x.f1.size ≤ 4611686018427387904) : Ev (fun k => selvedgeref06_Put.f k l a b) (putB l a b) := by
  unfold selvedgeref06_Put.f
  refine Ev.bind (refHas_ev a b l (by omega)) ?_
  have stay : putB l a b = l → Ev (fun k => selvedgeref06_Put.j0 k l true a b) (putB l a b) := fun h => by
    rw [h]
    exact Ev.step (f := fun _ => some _) (fun k => by rw [selvedgeref06_Put.j0, if_pos rfl]) (Ev.now _)
  rw [any_same]
  by_cases hn : (⟨a, b⟩ : S24) ∈ l
  · simp only [decide_eq_true hn, if_true]
    exact stay (putB_in l a b hn)
  · simp only [decide_eq_false hn, if_neg (show ¬ (false = true) by decide)]
    by_cases h1 : a < 1
    · simp only [if_pos h1]; exact stay (putB_no l a b (by omega))
    · simp only [if_neg h1]
      by_cases h2 : a > 64
      · simp only [decide_eq_true h2]; exact stay (putB_no l a b (by omega))
      · simp only [decide_eq_false h2]
        rw [putB_new l a b (by omega) hn]
        refine Ev.step (f := fun k => selvedgeref06_Put.l0 k l 0 a b) (fun k => by rw [selvedgeref06_Put.j0, if_neg (by decide)]) ?_
        exact refPut_loop l a b hl hb hs l.length 0 (Nat.zero_le _) (by omega) (Nat.zero_le _)
theorem same_loop (l : List S24) (hl : l.length ≤ 9223372036854775806) (d : Nat) : ∀ j : Nat, j ≤ l.length → l.length - j = d → Ev (fun k => selvedgeref06_Same.l0 k l l (j : Int)) true := by
  induction d with
  | zero =>
    intro j hj hd
    refine Ev.step (f := fun _ => some _) (fun k => ?_) (Ev.now _)
    rw [selvedgeref06_Same.l0, if_neg (by omega)]
  | succ d ih =>
    intro j hj hd
    refine Ev.step (fun k => ?_) (ih (j + 1) (by omega) (by omega))
    rw [selvedgeref06_Same.l0, if_pos (by omega), if_pos (by omega), if_pos (by omega), if_neg (by simp), wrap_small (by omega) (by omega)]
    rfl
theorem same_ev (l : List S24) (hl : l.length ≤ 9223372036854775806) : Ev (fun k => selvedgeref06_Same.f k l l) true := by
  unfold selvedgeref06_Same.f
  simp only [if_true]
  exact same_loop l hl l.length 0 (Nat.zero_le _) (by omega)
/-! ### right -/
def okAt (l : List S24) (i : Nat) : Bool := decide (1 ≤ (rd_T24 l (i : Int)).f0 ∧ (rd_T24 l (i : Int)).f0 ≤ 64) && (decide (i = 0) || ltB (rd_T24 l ((i - 1 : Nat) : Int)) (rd_T24 l (i : Int)))
def rightD (l : List S24) : Nat → Nat → Bool
  | 0, _ => true
  | d + 1, i => okAt l i && rightD l d (i + 1)
theorem right_loop (l : List S24) (hl : l.length ≤ 9223372036854775806) (d : Nat) : ∀ j : Nat, j ≤ l.length → l.length - j = d → Ev (fun k => book_Right.l0 k l l (l.length : Int) (j : Int)) (rightD l d j) := by
  induction d with
  | zero =>
    intro j hj hd
    refine Ev.step (f := fun _ => some _) (fun k => ?_) (Ev.now _)
    rw [book_Right.l0, if_neg (by omega)]
    rfl
  | succ d ih =>
    intro j hj hd
    have hih := ih (j + 1) (by omega) (by omega)
    rw [rightD]
    by_cases h1 : 1 ≤ (rd_T24 l (j : Int)).f0 ∧ (rd_T24 l (j : Int)).f0 ≤ 64
    · by_cases h0 : j = 0
      · have e : okAt l j = true := by unfold okAt; rw [decide_eq_true h1, decide_eq_true h0]; rfl
        rw [e, Bool.true_and]
        refine Ev.step (fun k => ?_) hih
        rw [book_Right.l0, if_pos (by omega), if_pos (by omega), if_pos (by omega), may_is, decide_eq_true h1]
        simp only [Option.bind_some, if_true]
        rw [if_neg (by omega), wrap_small (by omega) (by omega)]
        rfl
      · have e : okAt l j = ltB (rd_T24 l ((j - 1 : Nat) : Int)) (rd_T24 l (j : Int)) := by unfold okAt; rw [decide_eq_true h1, decide_eq_false h0]; rfl
        rw [e]
        have e1 : wrap64 ((j : Int) - 1) = ((j - 1 : Nat) : Int) := by rw [wrap_small (by omega) (by omega)]; omega
        cases hq : ltB (rd_T24 l ((j - 1 : Nat) : Int)) (rd_T24 l (j : Int)) with
        | true =>
          rw [Bool.true_and]
          refine Ev.step (fun k => ?_) hih
          rw [book_Right.l0, if_pos (by omega), if_pos (by omega), if_pos (by omega), may_is, decide_eq_true h1]
          simp only [Option.bind_some, if_true]
          rw [if_pos (by omega), e1, if_pos (by omega), if_pos (by omega), ahead_is]
          simp only [Option.bind_some]
          rw [if_pos (show aheadB (rd_T24 l ((j - 1 : Nat) : Int)).f0 (rd_T24 l ((j - 1 : Nat) : Int)).f1 (rd_T24 l (j : Int)) = true from hq), wrap_small (by omega) (by omega)]
          rfl
        | false =>
          rw [Bool.false_and]
          refine Ev.step (f := fun _ => some _) (fun k => ?_) (Ev.now _)
          rw [book_Right.l0, if_pos (by omega), if_pos (by omega), if_pos (by omega), may_is, decide_eq_true h1]
          simp only [Option.bind_some, if_true]
          rw [if_pos (by omega), e1, if_pos (by omega), if_pos (by omega), ahead_is]
          simp only [Option.bind_some]
          rw [if_neg (by rw [show aheadB (rd_T24 l ((j - 1 : Nat) : Int)).f0 (rd_T24 l ((j - 1 : Nat) : Int)).f1 (rd_T24 l (j : Int)) = false from hq]; decide)]
    · have e : okAt l j = false := by unfold okAt; rw [decide_eq_false h1]; rfl
      rw [e, Bool.false_and]
      refine Ev.step (f := fun _ => some _) (fun k => ?_) (Ev.now _)
      rw [book_Right.l0, if_pos (by omega), if_pos (by omega), if_pos (by omega), may_is, decide_eq_false h1]
      simp only [Option.bind_some]
      rw [if_neg (by decide)]
theorem right_ev (l : List S24) (hl : l.length ≤ 9223372036854775806) : Ev (fun k => book_Right.f k l) (rightD l l.length 0) := by
  have := right_loop l hl l.length 0 (Nat.zero_le _) (by omega)
  exact this
theorem rd_mem (l : List S24) (j : Nat) (h : j < l.length) : rd_T24 l (j : Int) ∈ l := by rw [rd_eq l j h]; exact List.getElem_mem h
theorem refRight_loop (l : List S24) (hl : l.length ≤ 9223372036854775806) (hs : ∀ x ∈ l, x.f1.size ≤ 4611686018427387904) (d : Nat) : ∀ j : Nat, j ≤ l.length → l.length - j = d → Ev (fun k => selvedgeref06_Right.l0 k l (j : Int)) (rightD l d j) := by
  induction d with
  | zero =>
    intro j hj hd
    refine Ev.step (f := fun _ => some _) (fun k => ?_) (Ev.now _)
    rw [selvedgeref06_Right.l0, if_neg (by omega)]
    rfl
  | succ d ih =>
    intro j hj hd
    have hih := ih (j + 1) (by omega) (by omega)
    rw [rightD]
    have no : okAt l j = false → Ev (fun k => selvedgeref06_Right.j1 k l (j : Int) true) (okAt l j && rightD l d (j + 1)) := fun e => by
      rw [e, Bool.false_and]
      exact Ev.step (f := fun _ => some _) (fun k => by rw [selvedgeref06_Right.j1, if_pos rfl]) (Ev.now _)
    by_cases h1 : 1 ≤ (rd_T24 l (j : Int)).f0 ∧ (rd_T24 l (j : Int)).f0 ≤ 64
    · refine Ev.step (f := fun k => selvedgeref06_Right.j1 k l (j : Int) false) (fun k => by rw [selvedgeref06_Right.l0, if_pos (by omega), if_pos (by omega), if_neg (by omega), decide_eq_false (by omega)]) ?_
      by_cases h0 : j = 0
      · have e : okAt l j = true := by unfold okAt; rw [decide_eq_true h1, decide_eq_true h0]; rfl
        rw [e, Bool.true_and]
        refine Ev.step (fun k => ?_) hih
        rw [selvedgeref06_Right.j1, if_neg (by decide), if_neg (by omega), wrap_small (by omega) (by omega)]
        rfl
      · have e : okAt l j = ltB (rd_T24 l ((j - 1 : Nat) : Int)) (rd_T24 l (j : Int)) := by unfold okAt; rw [decide_eq_true h1, decide_eq_false h0]; rfl
        rw [e]
        have e1 : wrap64 ((j : Int) - 1) = ((j - 1 : Nat) : Int) := by rw [wrap_small (by omega) (by omega)]; omega
        refine Ev.step (f := fun k => (selvedgeref06_Ahead.f k (rd_T24 l ((j - 1 : Nat) : Int)).f0 (rd_T24 l ((j - 1 : Nat) : Int)).f1 (rd_T24 l (j : Int)).f0 (rd_T24 l (j : Int)).f1).bind fun t187 => (if t187 = true then (selvedgeref06_Right.l0 k l (wrap64 ((j : Int) + 1))) else (some false))) (fun k => ?_) ?_
        · rw [selvedgeref06_Right.j1, if_neg (by decide), if_pos (by omega), e1, if_pos (by omega), if_pos (by omega), if_pos (by omega), if_pos (by omega)]
        · refine Ev.bind (refAhead_ev _ _ (rd_T24 l (j : Int)) (hs _ (rd_mem l (j - 1) (by omega))) (hs _ (rd_mem l j (by omega)))) ?_
          cases hq : ltB (rd_T24 l ((j - 1 : Nat) : Int)) (rd_T24 l (j : Int)) with
          | true =>
            rw [show aheadB (rd_T24 l ((j - 1 : Nat) : Int)).f0 (rd_T24 l ((j - 1 : Nat) : Int)).f1 (rd_T24 l (j : Int)) = true from hq, Bool.true_and]
            simp only [if_true]
            rw [wrap_small (by omega) (by omega)]
            exact hih
          | false =>
            rw [show aheadB (rd_T24 l ((j - 1 : Nat) : Int)).f0 (rd_T24 l ((j - 1 : Nat) : Int)).f1 (rd_T24 l (j : Int)) = false from hq, Bool.false_and]
            simp only [if_neg (show ¬ (false = true) by decide)]
            exact Ev.now _
    · have e : okAt l j = false := by unfold okAt; rw [decide_eq_false h1]; rfl
      by_cases h2 : (rd_T24 l (j : Int)).f0 < 1
      · exact Ev.step (fun k => by rw [selvedgeref06_Right.l0, if_pos (by omega), if_pos (by omega), if_pos h2]) (no e)
      · exact Ev.step (fun k => by rw [selvedgeref06_Right.l0, if_pos (by omega), if_pos (by omega), if_neg h2, decide_eq_true (by omega)]) (no e)
theorem refRight_ev (l : List S24) (hl : l.length ≤ 9223372036854775806) (hs : ∀ x ∈ l, x.f1.size ≤ 4611686018427387904) : Ev (fun k => selvedgeref06_Right.f k l) (rightD l l.length 0) := by
  have := refRight_loop l hl hs l.length 0 (Nat.zero_le _) (by omega)
  exact this
theorem BookPuts (l : List S24) (a : Int) (b : ByteArray) (hl : l.length ≤ 5864062014700) (hb : b.size ≤ 4611686018427387904) (hs : ∀ x ∈ l, x.f1.size ≤ 4611686018427387904) : ∃ k, selvedgelaw06_BookPuts.f k l a b = some true := by
  refine Ev.rounds (g := fun k => selvedgelaw06_BookPuts.f k l a b) ?_
  unfold selvedgelaw06_BookPuts.f
  have h1 := len_putB_le l a b
  refine Ev.bind shown_ev ?_
  rw [put_f l a b (by omega)]
  simp only [Option.bind_some]
  refine Ev.bind (refPut_ev l a b hl hb hs) ?_
  refine Ev.bind (same_ev _ (by omega)) ?_
  simp only [if_true]
  refine Ev.bind (has_ev a b l (by omega)) ?_
  refine Ev.bind (refHas_ev a b l (by omega)) ?_
  simp only [beq_self_eq_true, if_true]
  refine Ev.bind (right_ev l (by omega)) ?_
  refine Ev.bind (refRight_ev l (by omega) hs) ?_
  simp only [beq_self_eq_true]
  exact Ev.now _
end Go.Proofs.Ytigbkmbcoiodmaa.Pure
