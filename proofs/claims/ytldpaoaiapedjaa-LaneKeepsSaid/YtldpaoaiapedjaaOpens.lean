/- An argument that reads as data, taken apart by its type: the data as plain Lean values, the facts of memory that the printed contracts ask, and its bounds. Conditions: closed facts on the types. -/
import Derived.SizedLaws
import Derived.ChangeArms
import Derived.DataReads
import Derived.Test.YtldpaoaiapedjaaWWords
namespace Go.Proofs.Ytldpaoaiapedjaa
open Go.RowKit Go.Proofs.YtldpaoaiapedjaaW.PrintWords

/-- Whatever reads at type t reads as a value of the kind d; its bounds out of the reading's weights. -/
def Opens {α : Type} (P : Program) (w : World) (t : TypeId) (d : Kd α) (φ : α → Prop) : Prop :=
  ∀ (H : Type) (enc : TypeId × Value → H) (base : Nat) (spare : Nat → Bool) (held : Bool) (fuel : Nat) (cs : List Value) (y : DataW H × List MemPlace),
    DataW.trod enc P w base spare held fuel t cs = some y → ∃ x, d.K w x cs ∧ ((∀ n ∈ y.1.weights P t, n ≤ reachBytes) → φ x)

theorem opens_int {P : Program} {w : World} {t : TypeId} {k : IntKind} (ht : P.underlying t = some (.int k)) : Opens P w t (Kd.int k) (fun n => (Lit.int k n).wf = true) := by
  intro H enc base spare held fuel cs y h
  obtain ⟨n, rfl, _, hw⟩ := DataW.trod_int ht h
  exact ⟨n, rfl, fun _ => hw⟩

theorem opens_string {P : Program} {w : World} {t : TypeId} (ht : P.underlying t = some .string) : Opens P w t Kd.string (fun s => s.size ≤ 140737488351232) := by
  intro H enc base spare held fuel cs y h
  obtain ⟨s, rfl, rfl, hs⟩ := DataW.trod_string ht h
  refine ⟨s, rfl, fun hw => ?_⟩
  have := hw s.data.toList.length (by simp [DataW.weights])
  simpa [reachBytes] using this

theorem addr_add (a : Addr) (i j : Nat) : (a.add i).add j = a.add (i + j) := by
  unfold Addr.add
  by_cases hi : i = 0
  · subst hi; simp
  · by_cases hj : j = 0
    · subst hj; simp
    · simp [hi, hj, Nat.add_assoc]

/-- As many as there are places, each with its fact. -/
theorem pick_all {α : Type} (R : Nat → α → Prop) : ∀ n, (∀ i, i < n → ∃ x, R i x) → ∃ xs : List α, xs.length = n ∧ ∀ i x, xs[i]? = some x → R i x
  | 0, _ => ⟨[], rfl, fun i x h => by simp at h⟩
  | n + 1, h => by
    obtain ⟨xs, hl, hx⟩ := pick_all R n (fun i hi => h i (by omega))
    obtain ⟨x, hn⟩ := h n (by omega)
    refine ⟨xs ++ [x], by simp [hl], fun i y hy => ?_⟩
    rcases Nat.lt_or_ge i n with hi | hi
    · rw [List.getElem?_append_left (by omega)] at hy
      exact hx i y hy
    · have hlt := (List.getElem?_eq_some_iff.1 hy).1
      rw [List.length_append, List.length_singleton] at hlt
      obtain rfl : i = n := by omega
      rw [List.getElem?_append_right (by omega), hl, Nat.sub_self] at hy
      obtain rfl : x = y := by simpa using hy
      exact hn

theorem weightsAll_mem {H : Type} {P : Program} {e : TypeId} : ∀ {l : List (DataW H)} {d : DataW H}, d ∈ l → ∀ n ∈ d.weights P e, n ∈ DataW.weightsAll P e l
  | x :: l, d, hd, n, hn => by
    simp only [DataW.weightsAll, List.mem_append]
    rcases List.mem_cons.1 hd with rfl | hd
    · exact .inl hn
    · exact .inr (weightsAll_mem hd n hn)

theorem opens_slice {α : Type} {P : Program} {w : World} {t e : TypeId} {d : Kd α} {φ : α → Prop} (B : Nat) (ht : P.underlying t = some (.slice e)) (hc : P.cellsOf e = d.sz) (hB : P.bytesOf e = B) (he : Opens P w e d φ) :
    Opens P w t (Kd.slice e d) (fun xs => xs.length * B ≤ 140737488351232 ∧ xs.length ≤ maxLen ∧ ∀ x ∈ xs, φ x) := by
  intro H enc base spare held fuel cs y h
  rcases DataW.trod_slice ht h with ⟨rfl, rfl⟩ | ⟨a, len, cap, elems, rest, n, _, rfl, rfl, hb, hl, hm, hlen, hel, _, _⟩
  · exact ⟨[], ⟨none, 0, rfl, Nat.le_refl _, rfl, by simp, fun h => by simp at h⟩, fun _ => ⟨by simp, by simp, fun x hx => by cases hx⟩⟩
  · have each : ∀ i, i < len → ∃ x : α, ∃ (c : List Value) (z : DataW H × List MemPlace), elems[i]? = some z ∧ c.length = d.sz ∧ d.K w x c ∧ (∀ j u, c[j]? = some u → w.cell? (a.add (i * d.sz + j)) = some u) ∧ ((∀ n ∈ z.1.weights P e, n ≤ reachBytes) → φ x) := by
      intro i hi
      have h1 := hel i hi
      obtain ⟨z, hz⟩ : ∃ z, elems[i]? = some z := ⟨elems[i]'(by omega), List.getElem?_eq_getElem (by omega)⟩
      rw [hz, Option.bind_eq_some_iff] at h1
      obtain ⟨c, hc1, hc2⟩ := h1
      obtain ⟨_, hcl, hcell⟩ := World.cells?_some hc1
      obtain ⟨x, hK, hφ⟩ := he H enc base spare held n c z hc2
      refine ⟨x, c, z, hz, by rw [hcl, hc], hK, fun j u hu => ?_, hφ⟩
      have hj : j < P.cellsOf e := by have := (List.getElem?_eq_some_iff.1 hu).1; omega
      have := hcell j hj
      rw [hu] at this
      rw [← this, hc, addr_add]
    obtain ⟨xs, hxl, hxs⟩ := pick_all _ len each
    refine ⟨xs, ⟨some a, cap, by rw [hxl], by omega, by rw [hxl], by rw [hxl]; unfold maxLen at hm; omega, fun _ => ⟨a, rfl, fun j p hp => ?_⟩⟩, fun hw => ⟨?_, by omega, fun x hx => ?_⟩⟩
    · obtain ⟨c, z, _, h1, h2, h3, _⟩ := hxs j p hp
      exact ⟨c, h1, h2, h3⟩
    · have := hw (((elems.map (·.1)).length + (rest.map (·.1)).length) * P.bytesOf e) (by simp [DataW.weights, ht])
      rw [hB] at this
      refine Nat.le_trans (Nat.mul_le_mul_right B ?_) this
      rw [List.length_map, hxl, hlen]; omega
    · obtain ⟨i, hi⟩ := List.getElem?_of_mem hx
      obtain ⟨c, z, hz, _, _, _, hφ⟩ := hxs i x hi
      refine hφ fun n hn => hw n ?_
      simp only [DataW.weights, ht, List.mem_cons, List.mem_append]
      exact .inr (.inl (weightsAll_mem (List.mem_map.2 ⟨z, List.mem_of_getElem? hz, rfl⟩) n hn))

theorem opens_iso {α β : Type} {P : Program} {w : World} {t : TypeId} {d : Kd α} {φ : α → Prop} (f : β → α) (g : α → β) (hg : ∀ a, f (g a) = a) (h : Opens P w t d φ) : Opens P w t (Kd.iso d f) (fun x => φ (f x)) := by
  intro H enc base spare held fuel cs y hy
  obtain ⟨x, hK, hφ⟩ := h H enc base spare held fuel cs y hy
  exact ⟨g x, by show d.K w (f (g x)) cs; rw [hg]; exact hK, fun hw => by show φ (f (g x)); rw [hg]; exact hφ hw⟩

/-- Fields in line, from a place on. -/
def OpensF {α : Type} (P : Program) (w : World) (off : Nat) (fs : List Field) (d : Kd α) (φ : α → Prop) : Prop :=
  ∀ (H : Type) (enc : TypeId × Value → H) (base : Nat) (spare : Nat → Bool) (held : Bool) (fuel : Nat) (cs : List Value) (ys : List (DataW H × List MemPlace)),
    cs.length = off + d.sz → ys.length = fs.length → (∀ (i : Nat) (f : Field), fs[i]? = some f → DataW.trod enc P w base spare held fuel f.type ((cs.drop f.offset).take (P.cellsOf f.type)) = ys[i]?) →
    ∃ x, d.K w x (cs.drop off) ∧ ((∀ n ∈ DataW.weightsEach P (fs.map (·.type)) (ys.map (·.1)), n ≤ reachBytes) → φ x)

theorem opensF_one {α : Type} {P : Program} {w : World} {off : Nat} {f : Field} {d : Kd α} {φ : α → Prop} (ho : f.offset = off) (hc : P.cellsOf f.type = d.sz) (h : Opens P w f.type d φ) : OpensF P w off [f] d φ := by
  intro H enc base spare held fuel cs ys hl hy hf
  obtain ⟨y, rfl⟩ : ∃ y, ys = [y] := List.length_eq_one_iff.1 hy
  have h1 := hf 0 f rfl
  rw [ho, hc, List.take_of_length_le (by rw [List.length_drop]; omega)] at h1
  obtain ⟨x, hK, hφ⟩ := h H enc base spare held fuel _ y h1
  exact ⟨x, hK, fun hw => hφ fun n hn => hw n (by simp [DataW.weightsEach, hn])⟩

theorem opensF_cons {α β : Type} {P : Program} {w : World} {off : Nat} {f : Field} {fs : List Field} {d : Kd α} {d' : Kd β} {φ : α → Prop} {ψ : β → Prop} (ho : f.offset = off) (hc : P.cellsOf f.type = d.sz) (h : Opens P w f.type d φ)
    (hs : OpensF P w (off + d.sz) fs d' ψ) : OpensF P w off (f :: fs) (Kd.pair d d') (fun x => φ x.1 ∧ ψ x.2) := by
  intro H enc base spare held fuel cs ys hl hy hf
  obtain ⟨y, ys, rfl⟩ : ∃ y ys', ys = y :: ys' := by cases ys with | nil => simp at hy | cons y ys => exact ⟨y, ys, rfl⟩
  have hl' : cs.length = off + (d.sz + d'.sz) := hl
  have h1 := hf 0 f rfl
  rw [ho, hc] at h1
  obtain ⟨x, hK, hφ⟩ := h H enc base spare held fuel _ y h1
  obtain ⟨z, hK2, hψ⟩ := hs H enc base spare held fuel cs ys (by omega) (by simpa using hy) (fun i f' hf' => hf (i + 1) f' hf')
  refine ⟨(x, z), ⟨(cs.drop off).take d.sz, cs.drop (off + d.sz), ?_, hK, hK2⟩, fun hw => ⟨hφ fun n hn => hw n ?_, hψ fun n hn => hw n ?_⟩⟩
  · rw [← List.drop_drop, List.take_append_drop]
  · simp [DataW.weightsEach, hn]
  · simp [DataW.weightsEach, hn]

theorem opens_struct {α : Type} {P : Program} {w : World} {t : TypeId} {fs : List Field} {d : Kd α} {φ : α → Prop} (ht : P.underlying t = some (.struct fs.toArray)) (hc : P.cellsOf t = d.sz) (h : OpensF P w 0 fs d φ) : Opens P w t d φ := by
  intro H enc base spare held fuel cs y hy
  obtain ⟨xs, n, _, rfl, hl, hxl, hf⟩ := DataW.trod_struct ht hy
  obtain ⟨x, hK, hφ⟩ := h H enc base spare held n cs xs (by omega) (by simpa using hxl) (fun i f hi => hf i f (by simpa using hi))
  refine ⟨x, by simpa using hK, fun hw => hφ fun n hn => hw n ?_⟩
  simp only [DataW.weights, ht]
  exact hn

/-- A reading of one argument among several: the bounds out of the row's own. -/
theorem opens_arg {α : Type} {P : Program} {w : World} {t : TypeId} {d : Kd α} {φ : α → Prop} (h : Opens P w t d φ) {H : Type} {enc : TypeId × Value → H} {base : Nat} {spare : Nat → Bool} {held : Bool} {v : Value} {dd : DataW H} {ps : List MemPlace} {ts : List TypeId} {ds : List (DataW H)} {j : Nat}
    (hv : DataW.Trod enc P w base spare held t v dd ps) (hsz : (DataW.weightsEach P ts ds).all (· ≤ reachBytes) = true) (ht : ts[j]? = some t) (hd : ds[j]? = some dd) : ∃ x, d.K w x v.cells.toList ∧ φ x := by
  obtain ⟨fuel, hf⟩ := hv
  obtain ⟨x, hK, hφ⟩ := h H enc base spare held fuel _ _ hf
  exact ⟨x, hK, hφ fun n hn => by simpa using List.all_eq_true.1 hsz n (DataW.weights_mem_each ht hd n hn)⟩

end Go.Proofs.Ytldpaoaiapedjaa
