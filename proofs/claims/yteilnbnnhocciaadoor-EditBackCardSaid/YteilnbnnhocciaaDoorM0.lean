import Derived.Below
import Derived.WalkKit
import Derived.ScopeJumps
import Derived.RowKit
import Derived.Laws.BytesArg
import Derived.Laws.Strings
import Derived.Laws.OwnMore
set_option linter.unusedVariables false
namespace Go.Proofs.YteilnbnnhocciaaDoorM
open Go.RowKit
structure Hush (p : Prop) : Prop where mk :: (out : p)
theorem Exit.jump_mono {l : Nat} {J J' : Act → World → Prop} {Q : Exit → Act → World → Prop} (h : ∀ a w, J a w → J' a w) : ∀ e a w, Exit.jump l J Q e a w → Exit.jump l J' Q e a w := by
  intro e a w hq
  cases e with
  | goto l' => exact ⟨hq.1, h _ _ hq.2⟩
  | _ => exact hq
/-- A label that is jumped to: the code behind it is walked once. -/
theorem wp_scope_first {P : Program} {a : Act} {w : World} {Q : Exit → Act → World → Prop} {c R : Code} (l : Nat) (J : Act → World → Prop) (μ : Act → World → Nat) (hf : findLabel c l = some (Code.skip.seq R))
    (pass : ∀ a w, J a w → R.wp P (Exit.jump l (fun a' w' => J a' w' ∧ μ a' w' < μ a w) Q) a w)
    (first : Hush (∀ a w, J a w → R.wp P (Exit.jump l J Q) a w) → c.wp P (Exit.jump l J Q) a w) : (Code.scope c).wp P Q a w :=
  wp_scope_jumps l J μ hf (first ⟨fun a w hj => wp_mono (pass a w hj) (Exit.jump_mono fun _ _ h => h.1)⟩) fun a w hj => wp_seq (wp_skip (pass a w hj))
theorem bytesLess_flip : ∀ x y : List UInt8, (!(Op.bytesLess x y || x == y)) = Op.bytesLess y x
  | [], [] => rfl
  | [], _ :: _ => rfl
  | _ :: _, [] => rfl
  | a :: x, b :: y => by
    have ih := bytesLess_flip x y
    simp only [Op.bytesLess]
    rcases Nat.lt_trichotomy a.toNat b.toNat with h | h | h
    · have h1 : a < b := UInt8.lt_iff_toNat_lt.2 h
      have h2 : ¬ b < a := fun h' => by have := UInt8.lt_iff_toNat_lt.1 h'; omega
      have h3 : ¬ b = a := fun h' => by subst h'; omega
      simp [h1, h2, h3]
    · have h1 : a = b := UInt8.toNat_inj.1 h
      subst h1
      have h2 : ¬ a < a := fun h' => by have := UInt8.lt_iff_toNat_lt.1 h'; omega
      rw [← ih]
      simp [h2]
    · have h1 : b < a := UInt8.lt_iff_toNat_lt.2 h
      have h2 : ¬ a < b := fun h' => by have := UInt8.lt_iff_toNat_lt.1 h'; omega
      have h3 : ¬ a = b := fun h' => by subst h'; omega
      simp [h1, h2, h3]
/-- a > b, as b < a. -/
theorem gtr_run (t : TypeId) (a b : ByteArray) : binOp .gtr t (.string a) (.string b) = pure (.bool (Op.bytesLess b.toList a.toList)) := by
  rw [← bytesLess_flip]
  simp [binOp, Op.stringOp]
theorem leq_run (t : TypeId) (a b : ByteArray) : binOp .leq t (.string a) (.string b) = pure (.bool (!Op.bytesLess b.toList a.toList)) := by
  rw [← bytesLess_flip]
  simp [binOp, Op.stringOp]
theorem geq_run (t : TypeId) (a b : ByteArray) : binOp .geq t (.string a) (.string b) = pure (.bool (!Op.bytesLess a.toList b.toList)) := by
  simp [binOp, Op.stringOp]
theorem toList_nil_iff (s : ByteArray) : s.toList = [] ↔ s.size = 0 := by
  rw [ByteArray.toList_eq]
  constructor
  · intro h
    have := congrArg List.length h
    simpa using this
  · intro h
    exact List.eq_nil_of_length_eq_zero (by simpa using h)
/-- string(b) of a row of the call's own. -/
theorem run_convert_own {P : Program} {w : World} {src dst e base : Nat} {v : Value} {n : Nat} {xs : List Int} (hs : P.underlying src = some (.slice e)) (he : P.underlying e = some (.int .u8)) (hd : P.underlying dst = some .string)
    (hn : n = xs.length) (h : w.ownsRow base e 1 v n (xs.map (Value.int .u8))) : (convert src dst v).run P w = .ok (.string (strOfNums xs)) w := by
  subst hn
  rcases h.2 with ⟨rfl, hx⟩ | ⟨g, cap, cur, rfl, hb, hg, hl, hm, hc, htake⟩
  · have : xs = [] := by simpa using hx
    subst this
    exact run_convert_bytes_nil w src e hs he 0 0 dst hd
  · refine run_convert_bytes_arg w src e hs he g 0 xs.length cap xs rfl ?_ dst hd
    intro i hi
    have := h.cellAt i (by simpa using hi)
    rw [Nat.zero_add, this]
    simp [List.getElem?_eq_getElem hi, List.getD]
end Go.Proofs.YteilnbnnhocciaaDoorM
