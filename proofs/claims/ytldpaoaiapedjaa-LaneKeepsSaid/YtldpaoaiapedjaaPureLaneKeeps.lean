/- LaneKeeps: what the law comes to is true at every origin and list of acts; condition: the list's length is below 4398046511000. -/
import Derived.Test.YtldpaoaiapedjaaPureT
import Derived.Test.YtldpaoaiapedjaaPureR
import Derived.Test.YtldpaoaiapedjaaPureO
import Derived.Test.YtldpaoaiapedjaaU
namespace Go.Proofs.Ytldpaoaiapedjaa.Pure
open Go.RowKit Go.Proofs.Ytldpaoaiapedjaa.Q Go.Proofs.YtldpaoaiapedjaaW.PrintWords Go.Proofs.YtldpaoaiapedjaaW.PrintLast Go.Proofs.YtldpaoaiapedjaaW.PrintMore
set_option linter.unusedVariables false
set_option linter.unusedSimpArgs false
theorem rd_at38 (l : List S38) (i : Nat) (h : i < l.length) : rd_T38 l (i : Int) = l[i] := by
  unfold rd_T38
  rw [Int.toNat_natCast, List.getD_eq_getElem?_getD, List.getElem?_eq_getElem h]
  rfl
/-- What holds of a lane, the batches that were made, and what was accepted. -/
structure Pre (a n : Int) (p : List ByteArray) (op bs : List S42) (acc : List ByteArray) : Prop where
  ha : 1 ≤ a ∧ a ≤ 64
  hn : n = (bs.length : Int) + 1
  hn2 : n ≤ 1073741825
  hp : p.length ≤ 4
  hpo : ∀ t ∈ p, oddS t = false
  hop : ∀ x ∈ op, mayB x.f0 x.f1 x.f2 = true ∧ x.f0 = a ∧ x.f1 < n ∧ n - 8 ≤ x.f1
  hpw : op.Pairwise (fun x y => x.f1 < y.f1)
  hseq : ∀ (k : Nat) (h : k < bs.length), bs[k].f1 = (k : Int) + 1
  hall : bs.flatMap (fun x => x.f2) ++ p = acc
def Full (n : Int) (p : List ByteArray) (op : List S42) : Prop := p.length = 4 → leftD n op = false
theorem any_no {p : List ByteArray} (h : ∀ t ∈ p, oddS t = false) : p.any oddS = false := by
  rw [List.any_eq_false]
  intro t ht
  rw [h t ht]
  decide
theorem open_all {a n : Int} {op : List S42} (h8 : wrap64 (n - 8) = n - 8) (hop : ∀ x ∈ op, mayB x.f0 x.f1 x.f2 = true ∧ x.f0 = a ∧ x.f1 < n ∧ n - 8 ≤ x.f1) (hpw : op.Pairwise (fun x y => x.f1 < y.f1)) : ∀ (d j : Nat), j + d ≤ op.length → openD a n op d j = true
  | 0, _, _ => rfl
  | d + 1, j, hd => by
    have h : j < op.length := by omega
    obtain ⟨h1, h2, h3, h4⟩ := hop op[j] (List.getElem_mem h)
    rw [openD, open_all h8 hop hpw d (j + 1) (by omega), Bool.and_true]
    unfold okB
    rw [rd_at42 op j h, h1, decide_eq_true h2, decide_eq_true h3, h8, decide_eq_true h4]
    by_cases h0 : j = 0
    · rw [decide_eq_true h0]; rfl
    · rw [rd_at42 op (j - 1) (by omega), decide_eq_true (List.pairwise_iff_getElem.1 hpw (j - 1) j (by omega) h (by omega))]
      simp
theorem pre_right {a n : Int} {p : List ByteArray} {op bs : List S42} {acc : List ByteArray} (h : Pre a n p op bs acc) (hf : Full n p op) : rightD a n p op = true := by
  have hn := h.hn
  have hn2 := h.hn2
  have h8 : wrap64 (n - 8) = n - 8 := wrap_small (by omega) (by omega)
  unfold rightD
  rw [decide_eq_true (show 1 ≤ a ∧ a ≤ 64 ∧ 1 ≤ n ∧ n ≤ 1073741825 ∧ p.length ≤ 4 from ⟨h.ha.1, h.ha.2, by omega, hn2, h.hp⟩), any_no h.hpo, open_all h8 h.hop h.hpw op.length 0 (by omega)]
  by_cases h4 : p.length = 4
  · rw [decide_eq_true h4, hf h4]; rfl
  · rw [decide_eq_false h4]; rfl
theorem pre_short {a n : Int} {p : List ByteArray} {op bs : List S42} {acc : List ByteArray} (h : Pre a n p op bs acc) : shortR op := by
  intro x hx
  have := (h.hop x hx).1
  unfold mayB at this
  rw [Bool.and_eq_true, decide_eq_true_iff] at this
  omega
theorem pre_len {a n : Int} {p : List ByteArray} {op bs : List S42} {acc : List ByteArray} (h : Pre a n p op bs acc) : op.length ≤ 8 := by
  -- rising numbers in a window of eight
  have key : ∀ (j : Nat) (hj : j < op.length), n - 8 + (j : Int) ≤ op[j].f1 := by
    intro j
    induction j with
    | zero => intro hj; have := (h.hop op[0] (List.getElem_mem hj)).2.2.2; omega
    | succ j ih =>
      intro hj
      have h1 := ih (by omega)
      have h2 := List.pairwise_iff_getElem.1 h.hpw j (j + 1) (by omega) hj (by omega)
      omega
  apply Classical.byContradiction
  intro hc
  have h1 := key 8 (by omega)
  have h2 := (h.hop op[8] (List.getElem_mem (by omega))).2.2.1
  omega
/-- A batch is made of the pool. -/
theorem pre_seal {a n : Int} {p : List ByteArray} {op bs : List S42} {acc : List ByteArray} (h : Pre a n p op bs acc) (h0 : 1 ≤ p.length) (hl : leftD n op = true) :
    wrap64 (n + 1) = n + 1 ∧ Pre a (n + 1) [] (op ++ [⟨a, n, p⟩]) (bs ++ [⟨a, n, p⟩]) acc ∧ Full (n + 1) [] (op ++ [⟨a, n, p⟩]) := by
  have hn := h.hn
  have hn2 := h.hn2
  have ha := h.ha
  have hp := h.hp
  unfold leftD at hl
  rw [Bool.and_eq_true, decide_eq_true_iff, Bool.or_eq_true, decide_eq_true_iff, decide_eq_true_iff] at hl
  obtain ⟨hl1, hl2⟩ := hl
  have h8 : wrap64 (n - 8) = n - 8 := wrap_small (by omega) (by omega)
  rw [h8] at hl2
  have low : ∀ x ∈ op, n - 7 ≤ x.f1 := by
    intro x hx
    obtain ⟨j, hj, rfl⟩ := List.mem_iff_getElem.1 hx
    have h00 : n - 8 < op[0].f1 := by
      rcases hl2 with h2 | h2
      · omega
      · have e := rd_at42 op 0 (by omega)
        rw [show ((0 : Nat) : Int) = 0 from rfl] at e
        rw [e] at h2
        exact h2
    by_cases hj0 : j = 0
    · subst hj0; omega
    · have := List.pairwise_iff_getElem.1 h.hpw 0 j (by omega) hj (by omega)
      omega
  refine ⟨wrap_small (by omega) (by omega), ⟨ha, (by rw [List.length_append]; simp; omega), (by omega), (by simp), (fun t ht => by cases ht), ?_, ?_, ?_, ?_⟩, (fun h4 => by cases h4)⟩
  · intro x hx
    rcases List.mem_append.1 hx with hx | hx
    · obtain ⟨h1, h2, h3, _⟩ := h.hop x hx
      have := low x hx
      exact ⟨h1, h2, by omega, by omega⟩
    · rw [List.mem_singleton.1 hx]
      refine ⟨?_, rfl, by show n < n + 1; omega, by show n + 1 - 8 ≤ n; omega⟩
      show mayB a n p = true
      unfold mayB
      rw [any_no h.hpo, decide_eq_true (show 1 ≤ a ∧ a ≤ 64 ∧ 1 ≤ n ∧ n ≤ 1073741824 ∧ 1 ≤ p.length ∧ p.length ≤ 4 by omega)]
      rfl
  · rw [List.pairwise_append]
    refine ⟨h.hpw, List.pairwise_singleton _ _, fun x hx y hy => ?_⟩
    rw [List.mem_singleton.1 hy]
    exact (h.hop x hx).2.2.1
  · intro k hk
    by_cases hkb : k < bs.length
    · rw [List.getElem_append_left hkb]; exact h.hseq k hkb
    · rw [List.length_append, List.length_singleton] at hk
      obtain rfl : k = bs.length := by omega
      rw [List.getElem_append_right (Nat.le_refl _)]
      simp only [Nat.sub_self, List.getElem_cons_zero]
      exact hn
  · rw [List.flatMap_append, List.append_nil]
    simpa using h.hall
theorem pre_less {a n : Int} {p : List ByteArray} {op bs : List S42} {acc : List ByteArray} (h : Pre a n p op bs acc) (seq : Int) : Pre a n p (lessV op seq) bs acc :=
  ⟨h.ha, h.hn, h.hn2, h.hp, h.hpo, fun x hx => h.hop x (List.mem_filter.1 hx).1, h.hpw.filter _, h.hseq, h.hall⟩
theorem pre_put {a n : Int} {p : List ByteArray} {op bs : List S42} {acc : List ByteArray} (h : Pre a n p op bs acc) (t : ByteArray) (hp : p.length < 4) (ht : oddS t = false) : Pre a n (p ++ [t]) op bs (acc ++ [t]) := by
  refine ⟨h.ha, h.hn, h.hn2, by rw [List.length_append]; simp; omega, fun x hx => ?_, h.hop, h.hpw, h.hseq, by rw [← List.append_assoc, h.hall]⟩
  rcases List.mem_append.1 hx with hx | hx
  · exact h.hpo x hx
  · rw [List.mem_singleton.1 hx]; exact ht
/-! ### the scan of the open ones -/
def fin (l : List S38) (acc : List ByteArray) (bs : List S42) (i : Int) (a n : Int) (p : List ByteArray) (op : List S42) (k : Nat) : Option Bool :=
  (R16_Right.f k a n p op).bind fun t285 => (if t285 = true then (if n = (wrap64 ((bs.length : Int) + 1)) then (L16_LaneKeeps.l0 k l true acc bs (wrap64 (i + 1)) a n p op) else (some false)) else (some false))
theorem fin_ev {l : List S38} {acc : List ByteArray} {bs : List S42} {i a n : Int} {p : List ByteArray} {op : List S42} (h : Pre a n p op bs acc) (hf : Full n p op) (ih : Ev (fun k => L16_LaneKeeps.l0 k l true acc bs (wrap64 (i + 1)) a n p op) true) : Ev (fin l acc bs i a n p op) true := by
  have hn := h.hn
  have hn2 := h.hn2
  have hp := h.hp
  have hl := pre_len h
  have hr := refRight_ev a n p op (by omega) (by omega) (pre_short h)
  rw [pre_right h hf] at hr
  refine Ev.bind hr ?_
  have e : n = wrap64 ((bs.length : Int) + 1) := by rw [wrap_small (by omega) (by omega)]; exact hn
  simp only [if_true, if_pos e]
  exact ih
theorem scan_none {l : List S38} {acc : List ByteArray} {bs : List S42} {i a n : Int} {p : List ByteArray} {op : List S42} (hl : op.length ≤ 9) (hf : Ev (fin l acc bs i a n p op) true) (d : Nat) : ∀ j : Nat, j ≤ op.length → op.length - j = d → (∀ (q : Nat) (h : q < op.length), j ≤ q → op[q].f1 ≤ (bs.length : Int)) → Ev (fun k => L16_LaneKeeps.l1 k l true acc bs i (j : Int) a n p op) true := by
  induction d with
  | zero =>
    intro j hj hd hb
    refine Ev.step (fun k => ?_) hf
    rw [L16_LaneKeeps.l1, if_neg (by omega)]
    rfl
  | succ d ih =>
    intro j hj hd hb
    have h : j < op.length := by omega
    have hx := hb j h (Nat.le_refl _)
    refine Ev.step (fun k => ?_) (ih (j + 1) (by omega) (by omega) (fun q hq hjq => hb q hq (by omega)))
    rw [L16_LaneKeeps.l1, if_pos (by omega), if_pos (by omega), rd_at42 op j h, if_neg (by omega), wrap_small (by omega) (by omega)]
    rfl
theorem scan_one {l : List S38} {acc : List ByteArray} {bs : List S42} {i a n : Int} {p : List ByteArray} {op0 : List S42} {b : S42} (hl : op0.length ≤ 8) (hbl : bs.length ≤ 1073741825) (hb1 : b.f1 = (bs.length : Int) + 1) (hf : Ev (fin l acc (bs ++ [b]) i a n p (op0 ++ [b])) true) (d : Nat) : ∀ j : Nat, j ≤ op0.length → op0.length - j = d → (∀ x ∈ op0, x.f1 ≤ (bs.length : Int)) → Ev (fun k => L16_LaneKeeps.l1 k l true acc bs i (j : Int) a n p (op0 ++ [b])) true := by
  have hlen : (op0 ++ [b]).length = op0.length + 1 := by simp
  induction d with
  | zero =>
    intro j hj hd hb
    obtain rfl : j = op0.length := by omega
    have hend := scan_none (l := l) (acc := acc) (bs := bs ++ [b]) (i := i) (a := a) (n := n) (p := p) (op := op0 ++ [b]) (by omega) hf 0 (op0.length + 1) (by omega) (by omega) (fun q hq hjq => by omega)
    have e : (op0 ++ [b])[op0.length]'(by omega) = b := by simp
    refine Ev.step (fun k => ?_) hend
    rw [L16_LaneKeeps.l1, if_pos (by omega), if_pos (by omega), rd_at42 (op0 ++ [b]) op0.length (by omega), e, if_pos (by omega), if_pos (by omega), wrap_small (by omega) (by omega)]
    rfl
  | succ d ih =>
    intro j hj hd hb
    have h : j < op0.length := by omega
    have e : (op0 ++ [b])[j]'(by omega) = op0[j] := List.getElem_append_left h
    have hx := hb op0[j] (List.getElem_mem h)
    refine Ev.step (fun k => ?_) (ih (j + 1) (by omega) (by omega) hb)
    rw [L16_LaneKeeps.l1, if_pos (by omega), if_pos (by omega), rd_at42 (op0 ++ [b]) j (by omega), e, if_neg (by omega), wrap_small (by omega) (by omega)]
    rfl
/-! ### an act's end -/
theorem next_same {l : List S38} {acc : List ByteArray} {bs : List S42} {i a n : Int} {p : List ByteArray} {op : List S42} (h : Pre a n p op bs acc) (hf : Full n p op) (ih : Ev (fun k => L16_LaneKeeps.l0 k l true acc bs (wrap64 (i + 1)) a n p op) true) : Ev (fun k => L16_LaneKeeps.j1 k l true acc bs i a n p op) true := by
  have hl := pre_len h
  refine Ev.step (fun k => ?_) (scan_none (i := i) (by omega) (fin_ev h hf ih) op.length 0 (Nat.zero_le _) (by omega) (fun q hq _ => ?_))
  · rw [L16_LaneKeeps.j1]; rfl
  · have h1 := (h.hop op[q] (List.getElem_mem hq)).2.2.1
    have h2 := h.hn
    omega
theorem next_new {l : List S38} {acc : List ByteArray} {bs : List S42} {i a n : Int} {p : List ByteArray} {op : List S42} (h : Pre a n p op bs acc) (h0 : 1 ≤ p.length) (hlf : leftD n op = true)
    (ih : Ev (fun k => L16_LaneKeeps.l0 k l true acc (bs ++ [⟨a, n, p⟩]) (wrap64 (i + 1)) a (n + 1) [] (op ++ [⟨a, n, p⟩])) true) : Ev (fun k => L16_LaneKeeps.j1 k l true acc bs i a (wrap64 (n + 1)) [] (op ++ [⟨a, n, p⟩])) true := by
  obtain ⟨hw, h2, hf2⟩ := pre_seal h h0 hlf
  rw [hw]
  have hl := pre_len h
  have hn := h.hn
  have hn2 := h.hn2
  refine Ev.step (fun k => ?_) (scan_one (i := i) (b := ⟨a, n, p⟩) (op0 := op) (by omega) (by omega) hn (fin_ev h2 hf2 ih) op.length 0 (Nat.zero_le _) (by omega) (fun x hx => ?_))
  · rw [L16_LaneKeeps.j1]; rfl
  · have h1 := (h.hop x hx).2.2.1
    omega
/-! ### all batches, put together -/
theorem flat_len_le {bs : List S42} {p acc : List ByteArray} (h : bs.flatMap (fun x => x.f2) ++ p = acc) (j : Nat) : ((bs.take j).flatMap (fun x => x.f2)).length + p.length ≤ acc.length := by
  rw [← h, List.length_append]
  have h1 : bs = bs.take j ++ bs.drop j := (List.take_append_drop j bs).symm
  have h2 : (bs.flatMap (fun x => x.f2)).length = ((bs.take j).flatMap (fun x => x.f2)).length + ((bs.drop j).flatMap (fun x => x.f2)).length := by
    rw [← List.length_append, ← List.flatMap_append, List.take_append_drop]
  omega
theorem flat_succ {bs : List S42} (j : Nat) (h : j < bs.length) : (bs.take (j + 1)).flatMap (fun x => x.f2) = (bs.take j).flatMap (fun x => x.f2) ++ bs[j].f2 := by
  rw [List.take_succ_eq_append_getElem h, List.flatMap_append]
  simp
theorem all_loop {a n : Int} {p : List ByteArray} {op bs : List S42} {acc : List ByteArray} (h : Pre a n p op bs acc) (hacc : acc.length ≤ 4398046511000) (d : Nat) : ∀ j : Nat, j ≤ bs.length → bs.length - j = d → Ev (fun k => L16_LaneKeeps.l2 k true acc bs ((bs.take j).flatMap (fun x => x.f2)) (j : Int) a n p op) true := by
  have hn := h.hn
  have hn2 := h.hn2
  induction d with
  | zero =>
    intro j hj hd
    have hl := flat_len_le h.hall j
    refine Ev.step (f := fun k => (R01_Same.f k acc acc).bind fun t294 => (some t294)) (fun k => ?_) ?_
    · rw [L16_LaneKeeps.l2, if_neg (by omega), if_pos (by omega), if_pos rfl, List.take_of_length_le (by omega), h.hall]
    · have hs := refSame1_ev acc acc (by omega)
      rw [decide_eq_true rfl] at hs
      refine Ev.bind hs ?_
      exact Ev.now _
  | succ d ih =>
    intro j hj hd
    have hlt : j < bs.length := by omega
    have hl := flat_len_le h.hall (j + 1)
    have hih := ih (j + 1) (by omega) (by omega)
    rw [flat_succ j hlt] at hih hl
    rw [List.length_append] at hl
    have hw : wrap64 ((j : Int) + 1) = (j : Int) + 1 := wrap_small (by omega) (by omega)
    refine Ev.step (fun k => ?_) hih
    rw [L16_LaneKeeps.l2, if_pos (by omega), if_pos (by omega), rd_at42 bs j hlt, hw, if_pos (h.hseq j hlt), if_pos (by omega)]
    rfl
/-! ### the acts -/
theorem keeps_loop (l : List S38) (hl : l.length ≤ 4398046511000) (d : Nat) : ∀ (i : Nat) (acc : List ByteArray) (bs : List S42) (a n : Int) (p : List ByteArray) (op : List S42), i ≤ l.length → l.length - i = d → Pre a n p op bs acc → Full n p op → acc.length ≤ i →
    Ev (fun k => L16_LaneKeeps.l0 k l true acc bs (i : Int) a n p op) true := by
  induction d with
  | zero =>
    intro i acc bs a n p op hi hd h hf hacc
    have hall := all_loop h (by omega) bs.length 0 (Nat.zero_le _) (by omega)
    refine Ev.step (fun k => ?_) hall
    rw [L16_LaneKeeps.l0, if_neg (by omega)]
    rfl
  | succ d ih =>
    intro i acc bs a n p op hi hd h hf hacc
    have hlt : i < l.length := by omega
    have hw : wrap64 ((i : Int) + 1) = ((i + 1 : Nat) : Int) := by rw [wrap_small (by omega) (by omega)]; rfl
    have hopl := pre_len h
    have next : ∀ (acc : List ByteArray) (bs : List S42) (n : Int) (p : List ByteArray) (op : List S42), Pre a n p op bs acc → Full n p op → acc.length ≤ i + 1 → Ev (fun k => L16_LaneKeeps.l0 k l true acc bs (wrap64 ((i : Int) + 1)) a n p op) true := by
      intro acc bs n p op h hf hacc
      rw [hw]
      exact ih (i + 1) acc bs a n p op (by omega) (by omega) h hf hacc
    have same : Ev (fun k => L16_LaneKeeps.j1 k l true acc bs (i : Int) a n p op) true := next_same h hf (next acc bs n p op h hf (by omega))
    -- what settled leaves, of a pool that may be full
    have settled : ∀ (acc : List ByteArray) (p : List ByteArray) (op : List S42), Pre a n p op bs acc → acc.length ≤ i + 1 → Ev (fun k => L16_LaneKeeps.j1 k l true acc bs (i : Int) (setV a n p op).1 (setV a n p op).2.1 (setV a n p op).2.2.1 (setV a n p op).2.2.2) true := by
      intro acc p op h hacc
      rcases set_cases a n p op with ⟨e, hf⟩ | ⟨e, h4, hlf⟩
      · rw [e]; exact next_same h hf (next acc bs n p op h hf hacc)
      · rw [e]
        obtain ⟨_, h2, hf2⟩ := pre_seal h (by omega) hlf
        exact next_new h (by omega) hlf (next acc _ _ _ _ h2 hf2 hacc)
    by_cases k1 : l[i].f0 = 1
    · -- a submission
      by_cases hbad : (subV a n p op l[i].f2) = (a, n, p, op, 1) ∨ (subV a n p op l[i].f2) = (a, n, p, op, 4) ∨ (subV a n p op l[i].f2) = (a, n, p, op, 5)
      · refine Ev.step (fun k => ?_) same
        rw [L16_LaneKeeps.l0, if_pos (by omega), if_pos (by omega), rd_at38 l i hlt, if_pos k1, submit_f a n p op _ (by omega)]
        simp only [Option.bind_some]
        rcases hbad with e | e | e <;> rw [e] <;> rfl
      · have hok : 1 ≤ l[i].f2.size ∧ l[i].f2.size ≤ 48 ∧ p.length < 4 := by
          refine ⟨Classical.byContradiction fun hc => hbad (.inl ?_), Classical.byContradiction fun hc => hbad ?_, Classical.byContradiction fun hc => hbad ?_⟩
          · unfold subV; rw [if_pos (by omega)]
          · by_cases h0 : l[i].f2.size = 0
            · left; unfold subV; rw [if_pos h0]
            · right; left; unfold subV; rw [if_neg h0, if_pos (by omega)]
          · by_cases h0 : l[i].f2.size = 0
            · left; unfold subV; rw [if_pos h0]
            · by_cases h1 : 48 < l[i].f2.size
              · right; left; unfold subV; rw [if_neg h0, if_pos h1]
              · right; right; unfold subV; rw [if_neg h0, if_neg h1, if_pos (by omega)]
        have e : subV a n p op l[i].f2 = ((setV a n (p ++ [l[i].f2]) op).1, (setV a n (p ++ [l[i].f2]) op).2.1, (setV a n (p ++ [l[i].f2]) op).2.2.1, (setV a n (p ++ [l[i].f2]) op).2.2.2, 0) := by
          unfold subV; rw [if_neg (by omega), if_neg (by omega), if_neg (by omega)]
        have ho : oddS l[i].f2 = false := by unfold oddS; rw [decide_eq_false (by omega), decide_eq_false (by omega)]; rfl
        refine Ev.step (fun k => ?_) (settled (acc ++ [l[i].f2]) (p ++ [l[i].f2]) op (pre_put h _ hok.2.2 ho) (by rw [List.length_append]; simp; omega))
        rw [L16_LaneKeeps.l0, if_pos (by omega), if_pos (by omega), rd_at38 l i hlt, if_pos k1, submit_f a n p op _ (by omega), e]
        simp only [Option.bind_some, if_true]
        rw [if_pos (by omega)]
    · by_cases k2 : l[i].f0 = 2
      · -- a seal
        by_cases h0 : p.length = 0
        · refine Ev.step (fun k => ?_) same
          rw [L16_LaneKeeps.l0, if_pos (by omega), if_pos (by omega), rd_at38 l i hlt, if_neg k1, if_pos k2, seal_f a n p op (by omega)]
          simp only [Option.bind_some]
          rw [show sealV a n p op = (a, n, p, op, 7) by unfold sealV; rw [if_pos h0]]
        · cases hlf : leftD n op with
          | true =>
            obtain ⟨_, h2, hf2⟩ := pre_seal h (by omega) hlf
            refine Ev.step (fun k => ?_) (next_new h (by omega) hlf (next acc _ _ _ _ h2 hf2 (by omega)))
            rw [L16_LaneKeeps.l0, if_pos (by omega), if_pos (by omega), rd_at38 l i hlt, if_neg k1, if_pos k2, seal_f a n p op (by omega)]
            simp only [Option.bind_some]
            rw [show sealV a n p op = (a, wrap64 (n + 1), [], op ++ [⟨a, n, p⟩], 0) by unfold sealV; rw [if_neg h0, if_pos hlf]]
          | false =>
            refine Ev.step (fun k => ?_) same
            rw [L16_LaneKeeps.l0, if_pos (by omega), if_pos (by omega), rd_at38 l i hlt, if_neg k1, if_pos k2, seal_f a n p op (by omega)]
            simp only [Option.bind_some]
            rw [show sealV a n p op = (a, n, p, op, 5) by unfold sealV; rw [if_neg h0, hlf, if_neg (by decide)]]
      · by_cases k3 : l[i].f0 = 3
        · by_cases n0 : l[i].f1 ≥ 0
          · by_cases n1 : l[i].f1 < (op.length : Int)
            · have hll := len_less op (rd_T42 op l[i].f1).f1
              refine Ev.step (fun k => ?_) (settled acc p (lessV op (rd_T42 op l[i].f1).f1) (pre_less h _) (by omega))
              rw [L16_LaneKeeps.l0, if_pos (by omega), if_pos (by omega), rd_at38 l i hlt, if_neg k1, if_neg k2, if_pos k3, if_pos n0, if_pos n1, if_pos (by omega), ordered_f a n p op _ (by omega)]
              simp only [Option.bind_some]
            · refine Ev.step (fun k => ?_) same
              rw [L16_LaneKeeps.l0, if_pos (by omega), if_pos (by omega), rd_at38 l i hlt, if_neg k1, if_neg k2, if_pos k3, if_pos n0, if_neg n1]
          · refine Ev.step (fun k => ?_) same
            rw [L16_LaneKeeps.l0, if_pos (by omega), if_pos (by omega), rd_at38 l i hlt, if_neg k1, if_neg k2, if_pos k3, if_neg n0]
        · refine Ev.step (fun k => ?_) same
          rw [L16_LaneKeeps.l0, if_pos (by omega), if_pos (by omega), rd_at38 l i hlt, if_neg k1, if_neg k2, if_neg k3]
theorem LaneKeeps (o : Int) (l : List S38) (hl : l.length ≤ 4398046511000) : ∃ k, L16_LaneKeeps.f k o l = some true := by
  refine Ev.rounds (g := fun k => L16_LaneKeeps.f k o l) ?_
  unfold L16_LaneKeeps.f L16_shown.f lane_New.f
  simp only [Option.bind_some]
  by_cases h1 : o < 1
  · simp only [if_pos h1, Option.bind_some, if_neg (show ¬ ((1 : Int) = 0) by decide), if_true]; exact Ev.now _
  · by_cases h2 : o > 64
    · simp only [if_neg h1, if_pos h2, Option.bind_some, if_neg (show ¬ ((1 : Int) = 0) by decide), if_true, decide_eq_true h2]; exact Ev.now _
    · simp only [if_neg h1, if_neg h2, Option.bind_some, if_true]
      exact keeps_loop l hl l.length 0 [] [] o 1 [] [] (Nat.zero_le _) (by omega) ⟨(by omega), (by simp), (by omega), (by simp), (fun t ht => by cases ht), (fun x hx => by cases hx), List.Pairwise.nil, (fun k hk => by simp at hk), rfl⟩ (fun h4 => by cases h4) (by simp)
end Go.Proofs.Ytldpaoaiapedjaa.Pure
