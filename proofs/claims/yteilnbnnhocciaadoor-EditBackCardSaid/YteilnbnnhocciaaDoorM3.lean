/- What an argument reads as, told in the printed words' kinds: integers, texts, structs, rows of them. -/
import Derived.Test.YteilnbnnhocciaaDoorWMore
import Derived.Test.YteilnbnnhocciaaDoorM0
import Derived.ChangeArms
import Derived.DataReads
import Derived.Deep.Slices
import Derived.WideShapes
set_option linter.unusedVariables false
namespace Go.Proofs.YteilnbnnhocciaaDoorM
open Go.RowKit Go.Proofs.YteilnbnnhocciaaDoorW.PrintWords
/-- Whatever reads at a type is an element of the kind, and good. -/
def Opens (P : Program) (t : TypeId) {α : Type} (d : Kd α) (G : α → Prop) : Prop :=
  ∀ {H : Type} (enc : TypeId × Value → H) (w : World) (base : Nat) (spare : Nat → Bool) (held : Bool) (n : Nat) (cs : List Value) (x : DataW H × List MemPlace), DataW.trod enc P w base spare held n t cs = some x → ∃ a, d.K w a cs ∧ G a
variable {P : Program}
theorem opens_int {t : TypeId} {k : IntKind} (ht : P.underlying t = some (.int k)) : Opens P t (Kd.int k) (fun n => (Lit.int k n).wf = true) := by
  intro H enc w base spare held n cs x h
  obtain ⟨m, rfl, _, hw⟩ := DataW.trod_int ht h
  exact ⟨m, rfl, hw⟩
theorem opens_bool {t : TypeId} (ht : P.underlying t = some .bool) : Opens P t Kd.bool (fun _ => True) := by
  intro H enc w base spare held n cs x h
  obtain ⟨b, rfl, _⟩ := DataW.trod_bool ht h
  exact ⟨b, rfl, trivial⟩
theorem opens_string {t : TypeId} (ht : P.underlying t = some .string) : Opens P t Kd.string (fun s => s.size ≤ maxLen) := by
  intro H enc w base spare held n cs x h
  obtain ⟨s, rfl, _, hs⟩ := DataW.trod_string ht h
  exact ⟨s, rfl, hs⟩
theorem Opens.iso {t : TypeId} {α β : Type} {d : Kd α} {G : α → Prop} (h : Opens P t d G) (f : β → α) (g : α → β) (hg : ∀ a, f (g a) = a) : Opens P t (Kd.iso d f) (fun y => G (f y)) := by
  intro H enc w base spare held n cs x hx
  obtain ⟨a, hK, hG⟩ := h enc w base spare held n cs x hx
  exact ⟨g a, (by rw [hg]; exact hK : d.K w (f (g a)) cs), by show G (f (g a)); rw [hg]; exact hG⟩
theorem Opens.good {t : TypeId} {α : Type} {d : Kd α} {G G' : α → Prop} (h : Opens P t d G) (hg : ∀ a, G a → G' a) : Opens P t d G' := by
  intro H enc w base spare held n cs x hx
  obtain ⟨a, hK, hG⟩ := h enc w base spare held n cs x hx
  exact ⟨a, hK, hg a hG⟩
/-- A row of fields from a place on. -/
def OpensF (P : Program) (fs : List Field) (off : Nat) {α : Type} (d : Kd α) (G : α → Prop) : Prop :=
  ∀ {H : Type} (enc : TypeId × Value → H) (w : World) (base : Nat) (spare : Nat → Bool) (held : Bool) (n : Nat) (cs : List Value), cs.length = off + d.sz →
    (∀ f ∈ fs, ∃ y, DataW.trod enc P w base spare held n f.type ((cs.drop f.offset).take (P.cellsOf f.type)) = some y) → ∃ a, d.K w a (cs.drop off) ∧ G a
theorem opensF_one {f : Field} {off : Nat} {α : Type} {d : Kd α} {G : α → Prop} (h : Opens P f.type d G) (ho : f.offset = off) (hs : P.cellsOf f.type = d.sz) : OpensF P [f] off d G := by
  intro H enc w base spare held n cs hl hf
  obtain ⟨y, hy⟩ := hf f (by simp)
  rw [ho, List.take_of_length_le (by rw [List.length_drop]; omega)] at hy
  exact h enc w base spare held n _ _ hy
theorem opensF_cons {f : Field} {fs : List Field} {off : Nat} {α β : Type} {d : Kd α} {G : α → Prop} {d' : Kd β} {G' : β → Prop} (h : Opens P f.type d G) (ho : f.offset = off) (hs : P.cellsOf f.type = d.sz)
    (hr : OpensF P fs (off + d.sz) d' G') : OpensF P (f :: fs) off (Kd.pair d d') (fun x => G x.1 ∧ G' x.2) := by
  intro H enc w base spare held n cs hl hf
  obtain ⟨y, hy⟩ := hf f (by simp)
  rw [ho, hs] at hy
  obtain ⟨a, hK, hG⟩ := h enc w base spare held n _ _ hy
  obtain ⟨b, hK', hG'⟩ := hr enc w base spare held n cs (by rw [hl]; show off + (d.sz + d'.sz) = _; omega) (fun g hg => hf g (by simp [hg]))
  refine ⟨(a, b), ⟨_, _, ?_, hK, hK'⟩, hG, hG'⟩
  rw [← List.drop_drop, List.take_append_drop]
theorem opens_struct {t : TypeId} {fs : List Field} {α : Type} {d : Kd α} {G : α → Prop} (ht : P.underlying t = some (.struct fs.toArray)) (hs : P.cellsOf t = d.sz) (h : OpensF P fs 0 d G) : Opens P t d G := by
  intro H enc w base spare held n cs x hx
  obtain ⟨xs, m, _, _, hl, hlen, hf⟩ := DataW.trod_struct ht hx
  obtain ⟨a, hK, hG⟩ := h enc w base spare held m cs (by rw [hl, hs]; omega) (fun f hm => by
    obtain ⟨i, hi, hfi⟩ := List.getElem_of_mem hm
    have h1 := hf i f (by simp [hi, hfi])
    rw [h1]
    have hlt : i < xs.length := by rw [hlen]; simpa using hi
    exact ⟨xs[i], List.getElem?_eq_getElem hlt⟩)
  exact ⟨a, by simpa using hK, hG⟩
theorem add_of_add' (a : Addr) (i j : Nat) : (a.add i).add j = a.add (i + j) := by
  unfold Addr.add
  by_cases hi : i = 0 <;> by_cases hj : j = 0 <;> simp [hi, hj, Nat.add_assoc]
theorem list_of {α : Type} {n : Nat} {p : Nat → α → Prop} (h : ∀ i, i < n → ∃ x, p i x) : ∃ l : List α, l.length = n ∧ ∀ i (hi : i < l.length), p i l[i] := by
  induction n with
  | zero => exact ⟨[], rfl, fun i hi => absurd hi (Nat.not_lt_zero _)⟩
  | succ n ih =>
    obtain ⟨l, hl, hp⟩ := ih (fun i hi => h i (by omega))
    obtain ⟨x, hx⟩ := h n (by omega)
    refine ⟨l ++ [x], by simp [hl], fun i hi => ?_⟩
    by_cases hi' : i < l.length
    · rw [List.getElem_append_left hi']; exact hp i hi'
    · have hn : i = n := by simp [hl] at hi; omega
      subst hn
      rw [List.getElem_append_right (by omega)]
      simpa [hl] using hx
theorem opens_slice {t e : TypeId} {α : Type} {d : Kd α} {G : α → Prop} (ht : P.underlying t = some (.slice e)) (hs : P.cellsOf e = d.sz) (h : Opens P e d G) : Opens P t (Kd.slice e d) (fun l => ∀ x ∈ l, G x) := by
  intro H enc w base spare held n cs x hx
  rcases DataW.trod_slice ht hx with ⟨rfl, _⟩ | ⟨a, len, cap, elems, rest, m, _, rfl, _, hb, hl, hm, hlen, hel, _, _⟩
  · exact ⟨[], ⟨none, 0, rfl, Nat.le_refl _, Kd.C_nil _ _⟩, fun x hx => by cases hx⟩
  · obtain ⟨l, hll, hp⟩ := list_of (n := len) (p := fun i a' => ∃ c, w.cells? base (a.add (i * P.cellsOf e)) (P.cellsOf e) = some c ∧ d.K w a' c ∧ G a') (fun i hi => by
      have h1 := hel i hi
      rw [List.getElem?_eq_getElem (by omega)] at h1
      obtain ⟨c, hc, hy⟩ := Option.bind_eq_some_iff.mp h1
      obtain ⟨a', hK, hG⟩ := h enc w base spare held m c _ hy
      exact ⟨a', c, hc, hK, hG⟩)
    refine ⟨l, ⟨some a, cap, by rw [hll], by omega, rfl, by unfold maxLen at hm; omega, fun _ => ⟨a, rfl, fun j p hj => ?_⟩⟩, fun x hx => ?_⟩
    · have hjl : j < l.length := (List.getElem?_eq_some_iff.1 hj).1
      obtain ⟨c, hc, hK, _⟩ := hp j hjl
      obtain rfl : l[j] = p := by rw [List.getElem?_eq_getElem hjl] at hj; exact Option.some.inj hj
      obtain ⟨_, hcl, hcell⟩ := World.cells?_some hc
      refine ⟨c, by rw [hcl, hs], hK, fun i u hu => ?_⟩
      have hi : i < P.cellsOf e := by rw [← hcl]; exact (List.getElem?_eq_some_iff.1 hu).1
      rw [← hs, ← add_of_add', hcell i hi, hu]
    · obtain ⟨i, hi, rfl⟩ := List.getElem_of_mem hx
      obtain ⟨c, _, _, hG⟩ := hp i hi
      exact hG
end Go.Proofs.YteilnbnnhocciaaDoorM
