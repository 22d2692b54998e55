/- VoteOnce: what the law comes to is true at every list of asks; condition: the list's length is below 4398046511000. -/
import Derived.Test.YtlaagbadhkpjgaaPureVoteStays
import Derived.Test.YtlaagbadhkpjgaaQ9
namespace Go.Proofs.Ytlaagbadhkpjgaa.Pure
open Go.RowKit Go.Proofs.Ytlaagbadhkpjgaa.Q Go.Proofs.YtlaagbadhkpjgaaW.PrintWords Go.Proofs.YtlaagbadhkpjgaaW.PrintLast Go.Proofs.YtlaagbadhkpjgaaW.PrintMore
theorem rd_at40 (l : List S40) (i : Nat) (h : i < l.length) : rd_T40 l (i : Int) = l[i] := by
  unfold rd_T40
  rw [Int.toNat_natCast, List.getD_eq_getElem?_getD, List.getElem?_eq_getElem h]
  rfl
theorem ahead_iff (a r : Int) (y : S29) : aheadV a r y = true ↔ r < y.f1 ∨ (r = y.f1 ∧ a < y.f0) := by
  unfold aheadV
  simp
theorem lt_iff (x y : S29) : ltV x y = true ↔ x.f1 < y.f1 ∨ (x.f1 = y.f1 ∧ x.f0 < y.f0) := ahead_iff x.f0 x.f1 y
/-- Votes that are right: each may be, and they rise. -/
structure Rises (l : List S29) : Prop where
  may : ∀ x ∈ l, mayV x.f0 x.f1 = true
  pw : l.Pairwise (fun x y => ltV x y = true)
theorem rises_ok {l : List S29} (h : Rises l) (j : Nat) (hj : j < l.length) : okAt l j = true := by
  unfold okAt
  rw [rd_at l j hj, h.may _ (List.getElem_mem hj), Bool.true_and]
  by_cases h0 : j = 0
  · rw [decide_eq_true h0]; rfl
  · rw [rd_at l (j - 1) (by omega), List.pairwise_iff_getElem.1 h.pw (j - 1) j (by omega) hj (by omega), Bool.or_true]
theorem rises_rightD {l : List S29} (h : Rises l) : ∀ (d j : Nat), j + d ≤ l.length → rightD l d j = true
  | 0, _, _ => rfl
  | d + 1, j, hd => by rw [rightD, rises_ok h j (by omega), rises_rightD h d (j + 1) (by omega)]; rfl
theorem rises_right {l : List S29} (h : Rises l) (hl : l.length ≤ 9223372036854775806) : Ev (fun k => selvedgeref09_Right.f k l) true := by
  have := refRight_ev l hl
  rw [rises_rightD h l.length 0 (by omega)] at this
  exact this
theorem rises_filter {l : List S29} (h : Rises l) (p : S29 → Bool) : Rises (l.filter p) := ⟨fun x hx => h.may x (List.mem_filter.1 hx).1, h.pw.filter p⟩
theorem rises_ins {l : List S29} (h : Rises l) (a r : Int) (b : ByteArray) (hm : mayV a r = true) (hn : ∀ x ∈ l, ¬ (x.f0 = a ∧ x.f1 = r)) : Rises (insV l a r b) := by
  constructor
  · intro x hx
    rcases mem_insV.1 hx with hx | rfl
    · exact h.may x hx
    · exact hm
  · obtain ⟨n, hnn⟩ : ∃ n, n = l.findIdx (aheadV a r) := ⟨_, rfl⟩
    have hle : n ≤ l.length := by rw [hnn]; exact List.findIdx_le_length
    have hpw := h.pw
    have htd : l = l.take n ++ l.drop n := (List.take_append_drop n l).symm
    rw [htd, List.pairwise_append] at hpw
    obtain ⟨p1, p2, p3⟩ := hpw
    have low : ∀ y ∈ l.take n, ltV y ⟨a, r, b⟩ = true := by
      intro y hy
      obtain ⟨i, hi, rfl⟩ := List.mem_iff_getElem.1 hy
      rw [List.length_take] at hi
      rw [List.getElem_take]
      have hf : aheadV a r l[i] = false := by
        have := List.not_of_lt_findIdx (xs := l) (p := aheadV a r) (i := i) (by omega)
        simpa using this
      have hk := hn l[i] (List.getElem_mem (by omega))
      rw [lt_iff]
      have hf' : ¬ (r < l[i].f1 ∨ (r = l[i].f1 ∧ a < l[i].f0)) := fun hc => by rw [(ahead_iff a r l[i]).2 hc] at hf; cases hf
      simp only []
      omega
    have high : ∀ y ∈ l.drop n, ltV ⟨a, r, b⟩ y = true := by
      intro y hy
      by_cases hlt : n < l.length
      · rw [List.drop_eq_getElem_cons hlt] at hy p2
        have hh : aheadV a r l[n] = true := by
          have := List.findIdx_getElem (xs := l) (p := aheadV a r) (w := by omega)
          simpa only [← hnn] using this
        rw [List.pairwise_cons] at p2
        rcases List.mem_cons.1 hy with rfl | hy
        · exact hh
        · have h2 := (lt_iff _ _).1 (p2.1 y hy)
          have h1 := (ahead_iff _ _ _).1 hh
          rw [lt_iff]
          simp only []
          omega
      · rw [List.drop_of_length_le (by omega)] at hy
        cases hy
    have hp : (l.take n ++ ⟨a, r, b⟩ :: l.drop n).Pairwise (fun x y => ltV x y = true) := by
      rw [List.pairwise_append, List.pairwise_cons]
      refine ⟨p1, ⟨high, p2⟩, ?_⟩
      intro x hx y hy
      rcases List.mem_cons.1 hy with rfl | hy
      · exact low x hx
      · exact p3 x hx y hy
    unfold insV
    rw [← hnn]
    exact hp
theorem rises_only {l : List S29} (h : Rises l) {x y : S29} (hx : x ∈ l) (hy : y ∈ l) (h0 : x.f0 = y.f0) (h1 : x.f1 = y.f1) : x = y := by
  obtain ⟨i, hi, rfl⟩ := List.mem_iff_getElem.1 hx
  obtain ⟨j, hj, rfl⟩ := List.mem_iff_getElem.1 hy
  have hp := List.pairwise_iff_getElem.1 h.pw
  rcases Nat.lt_trichotomy i j with hij | hij | hij
  · have := (lt_iff _ _).1 (hp i j hi hj hij); omega
  · subst hij; rfl
  · have := (lt_iff _ _).1 (hp j i hj hi hij); omega
/-- What holds at the head of each round. -/
structure Held (v g : List S29) (low : Int) : Prop where
  rises : Rises v
  cov : ∀ x ∈ g, x.f1 ≤ low ∨ ∃ y ∈ v, y.f0 = x.f0 ∧ y.f1 = x.f1 ∧ y.f2.toList = x.f2.toList
  one : ∀ x ∈ g, ∀ y ∈ g, x.f0 = y.f0 → x.f1 = y.f1 → x.f2.toList = y.f2.toList
theorem held_nil : Held [] [] 0 := ⟨⟨fun _ h => (by cases h), List.Pairwise.nil⟩, fun _ h => (by cases h), fun _ h => (by cases h)⟩
/-- A vote found or put in: the list of those given grows by it. -/
theorem held_add {v g : List S29} {low : Int} (h : Held v g low) (x : S29) (hx : low < x.f1) {z : S29} (hz : z ∈ v) (h0 : z.f0 = x.f0) (h1 : z.f1 = x.f1) (h2 : z.f2.toList = x.f2.toList) : Held v (g ++ [x]) low := by
  have key : ∀ y ∈ g, y.f0 = x.f0 → y.f1 = x.f1 → y.f2.toList = x.f2.toList := by
    intro y hy e0 e1
    rcases h.cov y hy with hc | ⟨u, hu, u0, u1, u2⟩
    · omega
    · have : u = z := rises_only h.rises hu hz (by omega) (by omega)
      rw [← u2, this, h2]
  refine ⟨h.rises, ?_, ?_⟩
  · intro y hy
    rcases List.mem_append.1 hy with hy | hy
    · exact h.cov y hy
    · rw [List.mem_singleton.1 hy]; exact .inr ⟨z, hz, h0, h1, h2⟩
  · intro y hy y' hy' e0 e1
    rcases List.mem_append.1 hy with hy | hy
    · rcases List.mem_append.1 hy' with hy' | hy'
      · exact h.one y hy y' hy' e0 e1
      · rw [List.mem_singleton.1 hy'] at e0 e1 ⊢; exact key y hy e0 e1
    · rw [List.mem_singleton.1 hy] at e0 e1 ⊢
      rcases List.mem_append.1 hy' with hy' | hy'
      · exact (key y' hy' e0.symm e1.symm).symm
      · rw [List.mem_singleton.1 hy']
theorem held_ins {v g : List S29} {low : Int} (h : Held v g low) (a r : Int) (b : ByteArray) (hm : mayV a r = true) (hf : (findV v a r).2 = false) : Held (insV v a r b) g low :=
  ⟨rises_ins h.rises a r b hm (findV_none hf), fun x hx => (h.cov x hx).imp id fun ⟨y, hy, e⟩ => ⟨y, mem_insV.2 (.inl hy), e⟩, h.one⟩
theorem held_floor {v g : List S29} {low : Int} (h : Held v g low) (m : Int) (hm : low ≤ m) : Held (v.filter (fun x => !lowV m x)) g m := by
  refine ⟨rises_filter h.rises _, ?_, h.one⟩
  intro x hx
  by_cases hle : x.f1 ≤ m
  · exact .inl hle
  · right
    rcases h.cov x hx with hc | ⟨y, hy, e0, e1, e2⟩
    · omega
    · exact ⟨y, List.mem_filter.2 ⟨hy, by unfold lowV; rw [decide_eq_false (by omega)]; rfl⟩, e0, e1, e2⟩
/-! ### the pairs -/
theorem once_pairs (g : List S29) (hg : g.length ≤ 4398046511104) (h : ∀ x ∈ g, ∀ y ∈ g, x.f0 = y.f0 → x.f1 = y.f1 → x.f2.toList = y.f2.toList) (i : Nat) (hi : i < g.length)
    (hn : Ev (fun k => selvedgelaw09_VoteOnce.l1 k true g (((i + 1 : Nat)) : Int)) true) (d : Nat) : ∀ j : Nat, j ≤ i → i - j = d → Ev (fun k => selvedgelaw09_VoteOnce.l2 k true g (i : Int) (j : Int)) true := by
  have hw : wrap64 ((i : Int) + 1) = ((i + 1 : Nat) : Int) := by rw [wrap_small (by omega) (by omega)]; rfl
  induction d with
  | zero =>
    intro j hj hd
    refine Ev.step (fun k => ?_) hn
    rw [selvedgelaw09_VoteOnce.l2, if_neg (by omega), hw]
  | succ d ih =>
    intro j hj hd
    have hw2 : wrap64 ((j : Int) + 1) = ((j + 1 : Nat) : Int) := by rw [wrap_small (by omega) (by omega)]; rfl
    refine Ev.step (fun k => ?_) (ih (j + 1) (by omega) (by omega))
    rw [selvedgelaw09_VoteOnce.l2, if_pos (by omega), if_pos (by omega), if_pos (by omega), if_pos (by omega), if_pos (by omega), rd_at g i hi, rd_at g j (by omega), hw2]
    by_cases h0 : g[i].f0 = g[j].f0
    · by_cases h1 : g[i].f1 = g[j].f1
      · rw [if_pos h0, if_pos h1, if_pos (h _ (List.getElem_mem hi) _ (List.getElem_mem (by omega)) h0 h1)]
      · rw [if_pos h0, if_neg h1]
    · rw [if_neg h0]
theorem once_all (g : List S29) (hg : g.length ≤ 4398046511104) (h : ∀ x ∈ g, ∀ y ∈ g, x.f0 = y.f0 → x.f1 = y.f1 → x.f2.toList = y.f2.toList) (d : Nat) : ∀ i : Nat, i ≤ g.length → g.length - i = d → Ev (fun k => selvedgelaw09_VoteOnce.l1 k true g (i : Int)) true := by
  induction d with
  | zero =>
    intro i hi hd
    refine Ev.step (f := fun _ => some _) (fun k => ?_) (Ev.now _)
    rw [selvedgelaw09_VoteOnce.l1, if_neg (by omega)]
  | succ d ih =>
    intro i hi hd
    refine Ev.step (fun k => ?_) (once_pairs g hg h i (by omega) (ih (i + 1) (by omega) (by omega)) i 0 (Nat.zero_le _) (by omega))
    rw [selvedgelaw09_VoteOnce.l1, if_pos (by omega)]
    rfl
/-! ### the rounds -/
def lowOk (low : Int) : Prop := 0 ≤ low ∧ low ≤ 1099512627776
theorem once_j2 (l : List S40) (hl : l.length ≤ 4398046511000) (j : Nat) (hj : j < l.length) (v g : List S29) (low : Int) (hlow : lowOk low) (h : Held v g low) (hv : v.length ≤ j + 1)
    (hn : ∀ v' low', lowOk low' → Held v' g low' → v'.length ≤ j + 1 → Ev (fun k => selvedgelaw09_VoteOnce.l0 k l true v' g low' (((j + 1 : Nat)) : Int)) true) (up : Bool) (hup : up = true → 0 < l[j].f1 ∧ l[j].f1 < 1000000 ∧ low < 1099511627776) :
    Ev (fun k => selvedgelaw09_VoteOnce.j2 k l true v g low (j : Int) up) true := by
  have hw : wrap64 ((j : Int) + 1) = ((j + 1 : Nat) : Int) := by rw [wrap_small (by omega) (by omega)]; rfl
  obtain ⟨l0, l1⟩ := hlow
  cases up with
  | true =>
    obtain ⟨u0, u1, u2⟩ := hup rfl
    have hlo : wrap64 (low + l[j].f1) = low + l[j].f1 := wrap_small (by omega) (by omega)
    have hfl := List.length_filter_le (fun z => !lowV (low + l[j].f1) z) v
    have hh := held_floor h (low + l[j].f1) (by omega)
    refine Ev.step (f := fun k => (selvedgeref09_Right.f k (v.filter (fun x => !lowV (low + l[j].f1) x))).bind fun t217 => (if t217 = true then (selvedgelaw09_VoteOnce.l0 k l true (v.filter (fun x => !lowV (low + l[j].f1) x)) g (low + l[j].f1) (((j + 1 : Nat)) : Int)) else (some false))) (fun k => ?_) ?_
    · rw [selvedgelaw09_VoteOnce.j2, if_pos rfl, if_pos (by omega), if_pos (by omega), rd_at40 l j hj, hlo, hw, floor_f _ _ (by omega)]
      simp only [Option.bind_some]
    · refine Ev.bind (rises_right hh.rises (by omega)) ?_
      simp only [if_true]
      exact hn _ _ ⟨by omega, by omega⟩ hh (by omega)
  | false =>
    refine Ev.step (f := fun k => (selvedgeref09_Right.f k v).bind fun t218 => (if t218 = true then (selvedgelaw09_VoteOnce.l0 k l true v g low (((j + 1 : Nat)) : Int)) else (some false))) (fun k => ?_) ?_
    · rw [selvedgelaw09_VoteOnce.j2, if_neg (by decide), hw]
    · refine Ev.bind (rises_right h.rises (by omega)) ?_
      simp only [if_true]
      exact hn _ _ ⟨by omega, by omega⟩ h (by omega)
theorem once_j1 (l : List S40) (hl : l.length ≤ 4398046511000) (j : Nat) (hj : j < l.length) (v g : List S29) (low : Int) (hlow : lowOk low) (h : Held v g low) (hv : v.length ≤ j + 1)
    (hn : ∀ v' low', lowOk low' → Held v' g low' → v'.length ≤ j + 1 → Ev (fun k => selvedgelaw09_VoteOnce.l0 k l true v' g low' (((j + 1 : Nat)) : Int)) true) :
    Ev (fun k => selvedgelaw09_VoteOnce.j1 k l true v g low (j : Int)) true := by
  have j2 := once_j2 l hl j hj v g low hlow h hv hn
  by_cases h0 : l[j].f1 > 0
  · by_cases h1 : l[j].f1 < 1000000
    · refine Ev.step (fun k => ?_) (j2 (decide (low < 1099511627776)) (fun e => ⟨h0, h1, of_decide_eq_true e⟩))
      rw [selvedgelaw09_VoteOnce.j1, if_pos (by omega), if_pos (by omega), rd_at40 l j hj, if_pos h0, if_pos h1]
    · refine Ev.step (fun k => ?_) (j2 false (fun e => by cases e))
      rw [selvedgelaw09_VoteOnce.j1, if_pos (by omega), if_pos (by omega), rd_at40 l j hj, if_pos h0, if_neg h1]
  · refine Ev.step (fun k => ?_) (j2 false (fun e => by cases e))
    rw [selvedgelaw09_VoteOnce.j1, if_pos (by omega), if_pos (by omega), rd_at40 l j hj, if_neg h0]
theorem once_loop (l : List S40) (hl : l.length ≤ 4398046511000) (d : Nat) : ∀ (j : Nat) (v g : List S29) (low : Int), j ≤ l.length → l.length - j = d → lowOk low → Held v g low → v.length ≤ j → g.length ≤ j →
    Ev (fun k => selvedgelaw09_VoteOnce.l0 k l true v g low (j : Int)) true := by
  induction d with
  | zero =>
    intro j v g low hj hd hlow h hv hg
    refine Ev.step (fun k => ?_) (once_all g (by omega) h.one g.length 0 (Nat.zero_le _) (by omega))
    rw [selvedgelaw09_VoteOnce.l0, if_neg (by omega)]
    rfl
  | succ d ih =>
    intro j v g low hj hd hlow h hv hg
    have hlt : j < l.length := by omega
    have hlg := len_give v low l[j].f0.f0 l[j].f0.f1 l[j].f0.f2
    have next : ∀ g', g'.length ≤ j + 1 → ∀ v' low', lowOk low' → Held v' g' low' → v'.length ≤ j + 1 → Ev (fun k => selvedgelaw09_VoteOnce.l0 k l true v' g' low' (((j + 1 : Nat)) : Int)) true :=
      fun g' hg' v' low' hl' hh hv' => ih (j + 1) v' g' low' (by omega) (by omega) hl' hh hv' hg'
    have go : ∀ v' e g', giveV v low l[j].f0.f0 l[j].f0.f1 l[j].f0.f2 = (v', e) → Held v' g' low → v'.length ≤ j + 1 → (e = 0 → g' = g ++ [l[j].f0]) → (e ≠ 0 → g' = g) → Ev (fun k => selvedgelaw09_VoteOnce.l0 k l true v g low (j : Int)) true := by
      intro v' e g' hgv hh hv' he0 he1
      have hg' : g'.length ≤ j + 1 := by
        by_cases e0 : e = 0
        · rw [he0 e0, List.length_append]; simp; omega
        · rw [he1 e0]; omega
      refine Ev.step (fun k => ?_) (once_j1 l hl j hlt v' g' low hlow hh hv' (next g' hg'))
      rw [selvedgelaw09_VoteOnce.l0, if_pos (by omega), if_pos (by omega), rd_at40 l j hlt, give_f _ _ _ _ _ (by omega), hgv]
      simp only [Option.bind_some]
      by_cases e0 : e = 0
      · rw [if_pos e0, if_pos (by omega), he0 e0]
      · rw [if_neg e0, he1 e0]
    rcases give_cases v low l[j].f0.f0 l[j].f0.f1 l[j].f0.f2 with ⟨e, h0⟩ | ⟨e, hm, hlw, hf⟩
    · by_cases hz : (giveV v low l[j].f0.f0 l[j].f0.f1 l[j].f0.f2).2 = 0
      · obtain ⟨hm, hlw, hf, hb⟩ := h0 hz
        obtain ⟨z, hz1, z0, z1, z2⟩ := findV_some hf
        exact go v 0 (g ++ [l[j].f0]) (Prod.ext e hz) (held_add h l[j].f0 hlw hz1 z0 z1 (by rw [← z2]; exact hb)) (by omega) (fun _ => rfl) (fun hc => absurd rfl hc)
      · exact go v _ g (Prod.ext e rfl) h (by omega) (fun hc => absurd hc hz) (fun _ => rfl)
    · have hi := held_ins h l[j].f0.f0 l[j].f0.f1 l[j].f0.f2 hm hf
      exact go _ 0 (g ++ [l[j].f0]) e (held_add hi l[j].f0 hlw (mem_insV.2 (.inr rfl)) rfl rfl rfl) (by rw [len_ins]; omega) (fun _ => rfl) (fun hc => absurd rfl hc)
theorem VoteOnce (l : List S40) (hl : l.length ≤ 4398046511000) : ∃ k, selvedgelaw09_VoteOnce.f k l = some true := by
  refine Ev.rounds (g := fun k => selvedgelaw09_VoteOnce.f k l) ?_
  unfold selvedgelaw09_VoteOnce.f
  refine Ev.bind shown_ev ?_
  exact once_loop l hl l.length 0 [] [] 0 (Nat.zero_le _) (by omega) ⟨by omega, by omega⟩ held_nil (by simp) (by simp)
end Go.Proofs.Ytlaagbadhkpjgaa.Pure
