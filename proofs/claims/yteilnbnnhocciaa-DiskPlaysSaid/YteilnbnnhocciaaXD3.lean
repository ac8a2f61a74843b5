/- DiskPlays: the disk and the document's disk do a script and are of one mind after each act (part 3 of 10; packed by program out of the texts named below) -/
import Derived.Test.YteilnbnnhocciaaXD2
import Derived.Deep.RegionLaw
import Derived.Sort.Walk0
import Derived.Deep.RegionWith

/-! D40 -/
set_option linter.unusedVariables false
set_option linter.unusedSimpArgs false
namespace Go.Proofs.Yteilnbnnhocciaa.D
open Go.RowKit Go.Maps Go.ChangeMaps Go.MapKept Go.WideMaps Go.Sort Go.Proofs.YteilnbnnhocciaaW.PrintWords Go.Proofs.YteilnbnnhocciaaW.PrintLast Go.Proofs.YteilnbnnhocciaaW.PrintMore
theorem World.setCell_heap3 (w : World) (g : Nat) (a b c a' : Value) (t : TypeId) (h : w.heap[g]? = some (.cells #[a, b, c] t (0, 0))) : (w.setCell ⟨g, 0, none⟩ a').heap[g]? = some (.cells #[a', b, c] t (0, 0)) := by
  obtain ⟨hlt, hk⟩ := Array.getElem?_eq_some_iff.1 h
  show (w.heap.modify g _)[g]? = _
  rw [Array.getElem?_eq_getElem (by rw [Array.size_modify]; exact hlt), Array.getElem_modify_self, hk]
  simp
theorem cells3 {w : World} {g t : Nat} {a b c : Value} (h : w.heap[g]? = some (.cells #[a, b, c] t (0, 0))) : w.cell? ⟨g, 0, none⟩ = some a ∧ w.cell? ⟨g, 1, none⟩ = some b ∧ w.cell? ⟨g, 2, none⟩ = some c := by simp [World.cell?, h]
def renameL (k : Dk) (a b : ByteArray) : Files := gone (gone k.files a) b ++ [(b, (find k.files a).getD noFile)]
set_option maxRecDepth 100000 in
set_option maxHeartbeats 1000000 in
theorem rrename_on {w : World} {base q : Nat} {v : Value} {k : Dk} (h : IsRef w base q v k) (g : Good k) (a b : ByteArray) (hb : b.size ≤ 1000000) :
    Calls Try.prog 38 #[dp q, .string a, .string b] w (RefPost base q (actK k (renameOwn k a b) (renameL k a b)) (.int .i64 (stepE' k (renameOwn k a b))) w) := by
  have hl : k.files.length ≤ 200 := g.few
  have H := Hush.mk h
  have HG := Hush.mk g
  have HB := Hush.mk hb
  have hbs : base ≤ w.heap.size := Nat.le_of_lt (Nat.lt_of_le_of_lt h.ge h.lt)
  have HBS := Hush.mk hbs
  obtain ⟨i0, hi0, hz0, hz1, hz2⟩ := info_parts info79
  have HI := Hush.mk (And.intro hi0 (And.intro hz0 (And.intro hz1 hz2)))
  clear hi0 hz0 hz1 hz2
  obtain ⟨own, ho⟩ : ∃ own, own = renameOwn k a b := ⟨_, rfl⟩
  have HO := Hush.mk ho
  rw [← ho]
  clear h g hbs ho hb
  go_enter Try.func38, Try.ntmps38
  go_wp2_with fail
  refine (find_on H.out (by omega) a).mono ?_
  rintro e w1 ⟨rfl, hb1⟩
  have H1 := Hush.mk (H.out.below hb1)
  have HB1 : Hush (Below base w w1) := ⟨hb1.mono HBS.out⟩
  have HS1 : Hush (base ≤ w1.heap.size) := ⟨Nat.le_trans HBS.out hb1.size⟩
  clear hb1
  go_wp2_with fail
  refine (rnamed_on b HB.out _).mono ?_
  rintro e w2 ⟨rfl, rfl⟩
  cases hx : isName b with
  | false =>
    cases hf : find k.files a with
    | none =>
      rw [(idx_neg hf).2]
      have hown : own = 16 := by rw [HO.out]; unfold renameOwn; simp [hf]
      have HOW := Hush.mk hown
      clear hf hown hx
      go_wp2_with fail
      refine (rstep_all H1.out 16 HG.out.fuse HG.out.fault).mono ?_
      rintro e w3 ⟨rfl, hi, ht⟩
      have HB3 : Hush (Below base w w3) := ⟨HB1.out.trans (touch_base ht H.out.ge HS1.out)⟩
      have H3 := Hush.mk hi
      clear hi ht
      have hne : stepE' k 16 ≠ 0 := fun e => absurd (step0 e).1 (by decide)
      have hr : (stepE' k 16 == 0) = false := by rw [beq_eq_false_iff_ne]; exact hne
      have HA : Hush (actK k 16 (renameL k a b) = stepK' k 16) := ⟨actK_no hne⟩
      obtain ⟨r, hrr⟩ : ∃ r, r = stepE' k 16 := ⟨_, rfl⟩
      rw [← hrr] at hr ⊢
      have HRR := Hush.mk hrr
      clear hrr
      go_wp2
      go_ret
      exact ⟨by rw [HOW.out, ← HRR.out]; rfl, ⟨_, by rw [HOW.out, HA.out]; exact H3.out⟩, HB3.out⟩
    | some f =>
      obtain ⟨_, i, t2, t3⟩ := idx_pos hf
      rw [t2]
      have HT3 := Hush.mk t3
      have HFF := Hush.mk hf
      have HSL : Hush (renameL k a b = gone (gone k.files a) b ++ [(b, f)]) := ⟨by unfold renameL; rw [hf]; rfl⟩
      clear t2 t3
      have hown : own = 12 := by rw [HO.out]; unfold renameOwn; simp [hf, hx]
      have HOW := Hush.mk hown
      clear hf hown hx
      go_wp2_with fail
      refine (rstep_all H1.out 12 HG.out.fuse HG.out.fault).mono ?_
      rintro e w3 ⟨rfl, hi, ht⟩
      have HB3 : Hush (Below base w w3) := ⟨HB1.out.trans (touch_base ht H.out.ge HS1.out)⟩
      have H3 := Hush.mk hi
      clear hi ht
      have hne : stepE' k 12 ≠ 0 := fun e => absurd (step0 e).1 (by decide)
      have hr : (stepE' k 12 == 0) = false := by rw [beq_eq_false_iff_ne]; exact hne
      have HA : Hush (actK k 12 (renameL k a b) = stepK' k 12) := ⟨actK_no hne⟩
      obtain ⟨r, hrr⟩ : ∃ r, r = stepE' k 12 := ⟨_, rfl⟩
      rw [← hrr] at hr ⊢
      have HRR := Hush.mk hrr
      clear hrr
      go_wp2
      go_ret
      exact ⟨by rw [HOW.out, ← HRR.out]; rfl, ⟨_, by rw [HOW.out, HA.out]; exact H3.out⟩, HB3.out⟩
  | true =>
    cases hf : find k.files a with
    | none =>
      rw [(idx_neg hf).2]
      have hown : own = 16 := by rw [HO.out]; unfold renameOwn; simp [hf]
      have HOW := Hush.mk hown
      clear hf hown hx
      go_wp2_with fail
      refine (rstep_all H1.out 16 HG.out.fuse HG.out.fault).mono ?_
      rintro e w3 ⟨rfl, hi, ht⟩
      have HB3 : Hush (Below base w w3) := ⟨HB1.out.trans (touch_base ht H.out.ge HS1.out)⟩
      have H3 := Hush.mk hi
      clear hi ht
      have hne : stepE' k 16 ≠ 0 := fun e => absurd (step0 e).1 (by decide)
      have hr : (stepE' k 16 == 0) = false := by rw [beq_eq_false_iff_ne]; exact hne
      have HA : Hush (actK k 16 (renameL k a b) = stepK' k 16) := ⟨actK_no hne⟩
      obtain ⟨r, hrr⟩ : ∃ r, r = stepE' k 16 := ⟨_, rfl⟩
      rw [← hrr] at hr ⊢
      have HRR := Hush.mk hrr
      clear hrr
      go_wp2
      go_ret
      exact ⟨by rw [HOW.out, ← HRR.out]; rfl, ⟨_, by rw [HOW.out, HA.out]; exact H3.out⟩, HB3.out⟩
    | some f =>
      obtain ⟨_, i, t2, t3⟩ := idx_pos hf
      rw [t2]
      have HT3 := Hush.mk t3
      have HFF := Hush.mk hf
      have HSL : Hush (renameL k a b = gone (gone k.files a) b ++ [(b, f)]) := ⟨by unfold renameL; rw [hf]; rfl⟩
      clear t2 t3
      have hown : own = 0 := by rw [HO.out]; unfold renameOwn; simp [hf, hx]
      have HOW := Hush.mk hown
      clear hf hown hx
      go_wp2_with fail
      refine (rstep_all H1.out 0 HG.out.fuse HG.out.fault).mono ?_
      rintro e w3 ⟨rfl, hi, ht⟩
      have HB3 : Hush (Below base w w3) := ⟨HB1.out.trans (touch_base ht H.out.ge HS1.out)⟩
      have H3 := Hush.mk hi
      clear hi ht
      by_cases hr0 : stepE' k 0 = 0
      · have HA : Hush (actK k 0 (renameL k a b) = { stepK' k 0 with files := renameL k a b }) := ⟨actK_yes hr0⟩
        have HFI : Hush ((stepK' k 0).files = k.files) := ⟨stepK'_files k 0⟩
        rw [hr0]
        have HR0 := Hush.mk hr0
        clear hr0
        have hi3 : (stepK' k 0).files[i]? = some (a, f) := by rw [HFI.out]; exact HT3.out
        have hilt : i < (stepK' k 0).files.length := (List.getElem?_eq_some_iff.1 hi3).1
        obtain ⟨gb, cap, rfl, hgq, hgb, hglt, hcap, hat⟩ := H3.out.at_ (by omega)
        obtain ⟨a1, a2, a3, f1, _⟩ := hat i _ hi3
        have d0 := H3.out.c0
        have hi2 : (i : Int) < ((stepK' k 0).files.length : Int) := by omega
        have hi0 : (0 : Int) ≤ (i : Int) := by omega
        obtain ⟨fs, su⟩ := f
        simp only at a1 a2 a3
        clear hat hgq hgb hglt hcap hi3
        have H4 := Hush.mk (H3.out.alloc (.cells #[.string a, .string fs, .int .i64 su] 79))
        have HX4 := Hush.mk (World.alloc_heap_new w3 (.cells #[.string a, .string fs, .int .i64 su] 79))
        have HB4 : Hush (Below base w (w3.alloc (.cells #[.string a, .string fs, .int .i64 su] 79))) := ⟨HB3.out.alloc (by have := H3.out.ge; have := H3.out.lt; omega) _⟩
        have HXQ : Hush (w3.heap.size ≠ q) := ⟨by have := H3.out.lt; omega⟩
        go_wp2_with fail
        refine (rgone_t H4.out (by rw [HFI.out]; omega) a).mono ?_
        rintro e w5 ⟨rfl, ⟨v5, h5, _⟩, t5⟩
        rw [HFI.out] at h5
        have H5 := Hush.mk h5
        have HB5 : Hush (Below base w w5) := ⟨HB4.out.trans (touch_base t5 H4.out.ge (by have := H4.out.ge; have := H4.out.lt; omega))⟩
        have HX5 := Hush.mk ((t5.block w3.heap.size (Array.getElem?_eq_some_iff.1 HX4.out).1 HXQ.out).trans HX4.out)
        have HGL : Hush ((gone k.files a).length ≤ 200) := ⟨Nat.le_trans (List.length_filter_le _ _) hl⟩
        clear h5 t5 a1 a2 a3 f1 d0
        go_wp2_with fail
        refine (rgone_t H5.out (show (gone k.files a).length ≤ 1000 by have := HGL.out; omega) b).mono ?_
        rintro e w6 ⟨rfl, ⟨v6, h6, hb6⟩, t6⟩
        have H6 := Hush.mk h6
        have HB6 : Hush (Below base w w6) := ⟨HB5.out.trans (touch_base t6 H5.out.ge (by have := H5.out.ge; have := H5.out.lt; omega))⟩
        have HV6 : Hush (v6.ownBlock ≠ some w3.heap.size) := ⟨fun e => by have := hb6 _ e; have := (Array.getElem?_eq_some_iff.1 HX5.out).1; omega⟩
        have HX6 := Hush.mk ((t6.block w3.heap.size (Array.getElem?_eq_some_iff.1 HX5.out).1 HXQ.out).trans HX5.out)
        have HGL2 : Hush ((gone (gone k.files a) b).length ≤ 200) := ⟨Nat.le_trans (List.length_filter_le _ _) HGL.out⟩
        clear h6 t6 hb6
        have x0 : w6.cell? ⟨w3.heap.size, 0, none⟩ = some (.string a) := by simp [World.cell?, HX6.out]
        have xf : w6.frozen? ⟨w3.heap.size, 0, none⟩ = false := by simp [World.frozen?, HX6.out]
        have HBX := Hush.mk (World.setCell_heap3 w6 w3.heap.size (.string a) (.string fs) (.int .i64 su) (.string b) 79 HX6.out)
        have HVB : Hush (v6.ownBlock ≠ some w3.heap.size) := ⟨HV6.out⟩
        have H7 := Hush.mk (H6.out.keep (Touch.setCell (S := (· = w3.heap.size)) w6 ⟨w3.heap.size, 0, none⟩ (.string b) rfl) (fun e => HXQ.out e.symm) (fun gq hgq e => HVB.out (by rw [hgq]; exact congrArg some e)))
        have HB7 : Hush (Below base w (w6.setCell ⟨w3.heap.size, 0, none⟩ (.string b))) := ⟨HB6.out.setCell (p := ⟨w3.heap.size, 0, none⟩) (by have := H3.out.ge; have := H3.out.lt; show base ≤ w3.heap.size; omega) _⟩
        obtain ⟨A6, cap6, rfl⟩ := own_slice H6.out.own
        go_wp2_with fail
        clear x0 xf
        generalize w6.setCell ⟨w3.heap.size, 0, none⟩ (.string b) = w7 at HBX H7 HB7 ⊢
        obtain ⟨L, hL⟩ : ∃ L, L = gone (gone k.files a) b := ⟨_, rfl⟩
        have H7' : Hush (IsRef w7 base q (.slice A6 L.length cap6) { stepK' k 0 with files := L }) := ⟨by rw [hL]; exact H7.out⟩
        change Code.wp _ _ _ _ _
        have HLL : Hush (L.length ≤ 200 ∧ renameL k a b = L ++ [(b, ⟨fs, su⟩)]) := ⟨by rw [hL]; exact ⟨HGL2.out, HSL.out⟩⟩
        have hll := HLL.out.1
        simp only [← hL] at HVB ⊢
        clear H7 hL
        have hq7 := H7'.out.lt
        have hge7 := H7'.out.ge
        have HO7 := Hush.mk H7'.out.own
        have hx7 : w3.heap.size < w7.heap.size := (Array.getElem?_eq_some_iff.1 HBX.out).1
        have HNW : Hush ((w7.drew.alloc (.cells #[.string b, .string fs, .int .i64 su] 79)).heap[w7.heap.size]? = some (.cells #[.string b, .string fs, .int .i64 su] 79 (0, 0))) := ⟨World.alloc_heap_new w7.drew _⟩
        have HQ1 : Hush ((w7.drew.alloc (.cells #[.string b, .string fs, .int .i64 su] 79)).heap[q]? = some (.cells (rcells (.slice A6 L.length cap6) { stepK' k 0 with files := L }) 68 (0, 0))) := ⟨(H7'.out.drew.alloc _).row⟩
        have HX1 : Hush ((w7.drew.alloc (.cells #[.string b, .string fs, .int .i64 su] 79)).heap[w3.heap.size]? = some (.cells #[.string b, .string fs, .int .i64 su] 79 (0, 0))) := ⟨(Below.heap_alloc w7.drew _ _ hx7).trans HBX.out⟩
        have d0 := H7'.out.drew.c0
        have d1 : (w7.drew.alloc (.cells #[.string b, .string fs, .int .i64 su] 79)).cell? ⟨q, 0, none⟩ = some (.slice A6 L.length cap6) := by (simp [World.cell?, HQ1.out, rcells])
        obtain ⟨x0, x1, x2⟩ := cells3 (w := w7.drew) HBX.out
        have d2 : w7.cell? ⟨q, 0, none⟩ = some (.slice A6 L.length cap6) := H7'.out.c0
        have d3 : (w7.alloc (.cells #[.string b, .string fs, .int .i64 su] 79)).cell? ⟨q, 0, none⟩ = some (.slice A6 L.length cap6) := d1
        obtain ⟨x3, x4, x5⟩ := cells3 (w := w7) HBX.out
        go_region_law ((refine step_append_lies _ (by rfl) _ _ 66 (by rfl) base 79 i0 _ 3 40 Try.underlying66 HI.out.1 HI.out.2.1 HI.out.2.2.1 HI.out.2.2.2 rfl (by decide) (.slice A6 L.length cap6) L.length (rowOf L) (by rfl) ((HO7.out.drew).alloc _) ⟨w7.heap.size, 0, none⟩ 1 1 [.string b, .string fs, .int .i64 su] (by rfl) rfl (news3 HNW.out) (by simp [Value.oneCell']) (by decide) (by unfold maxLen; omega) (by omega) (by simp; omega) (w7.heap.size + 1) (by simp) ?_; intro gg cc w8 hown8 hgrow8 hor8 hgl8; have hq8 := (hgrow8.block q (by simp; omega) (fun e => H7'.out.ne e.symm)).trans HQ1.out; have cq8 : w8.cell? ⟨q, 0, none⟩ = some (.slice A6 L.length cap6) := (by simp [World.cell?, hq8, rcells]); have fq8 : w8.frozen? ⟨q, 0, none⟩ = false := (by simp [World.frozen?, hq8])))
        all_goals
          have HP : Hush (IsRef (w8.setCell ⟨q, 0, none⟩ (.slice (some ⟨gg, 0, none⟩) (L.length + 1) cc)) base q (.slice (some ⟨gg, 0, none⟩) (L.length + 1) cc) { stepK' k 0 with files := renameL k a b }) := ⟨by
            rw [HLL.out.2]
            refine IsRef.swap hq8 H7'.out.ge ?_ ?_ rfl
            · show w8.ownsRow base 79 3 _ (L ++ [(b, (⟨fs, su⟩ : FileV))]).length (rowOf (L ++ [(b, (⟨fs, su⟩ : FileV))]))
              rw [rowOf_app, List.length_append]
              exact hown8
            · intro e
              simp only [Value.ownBlock, Option.some.injEq] at e
              rcases hor8 with h | h
              · exact H7'.out.ne (by rw [h, e])
              · omega⟩
          have HBF : Hush (Below base w (w8.setCell ⟨q, 0, none⟩ (.slice (some ⟨gg, 0, none⟩) (L.length + 1) cc))) := ⟨((((HB7.out.trans (Below.drew (Below.refl _ _))).alloc (by show base ≤ w7.heap.size; omega) _).grown hgrow8 (by simp; omega) (fun r hr => (HO7.out.lt r hr).1))).setCell (p := ⟨q, 0, none⟩) hge7 _⟩
          clear hq8 cq8 fq8 hown8 hgrow8 hor8 hgl8 d0 d1 d2 d3 x0 x1 x2 x3 x4 x5
          go_wp2
          go_ret
          exact ⟨by rw [HOW.out, HR0.out]; rfl, ⟨_, by rw [HOW.out, HA.out]; exact HP.out⟩, HBF.out⟩
      · have hr : (stepE' k 0 == 0) = false := by simpa using hr0
        have HA : Hush (actK k 0 (renameL k a b) = stepK' k 0) := ⟨actK_no hr0⟩
        obtain ⟨r, hrr⟩ : ∃ r, r = stepE' k 0 := ⟨_, rfl⟩
        rw [← hrr] at hr ⊢
        have HRR := Hush.mk hrr
        clear hrr
        go_wp2
        go_ret
        exact ⟨by rw [HOW.out, ← HRR.out]; rfl, ⟨_, by rw [HOW.out, HA.out]; exact H3.out⟩, HB3.out⟩
end Go.Proofs.Yteilnbnnhocciaa.D

/-! D41 -/
set_option linter.unusedVariables false
set_option linter.unusedSimpArgs false
namespace Go.Proofs.Yteilnbnnhocciaa.D
open Go.RowKit Go.Maps Go.Sort
abbrev Bs := List UInt8
def insStep (x : Bs) (s : List Bs × Bool) (y : Bs) : List Bs × Bool := if s.2 = false ∧ x < y then (s.1 ++ [x, y], true) else (s.1 ++ [y], s.2)
def insGo (x : Bs) (l : List Bs) : List Bs × Bool := l.foldl (insStep x) ([], false)
def insB (x : Bs) (l : List Bs) : List Bs := if (insGo x l).2 = false then (insGo x l).1 ++ [x] else (insGo x l).1
def insAll (ns : List Bs) : List Bs := ns.foldl (fun out x => insB x out) []
theorem insGo_snoc (x : Bs) (l : List Bs) (y : Bs) : insGo x (l ++ [y]) = insStep x (insGo x l) y := by
  unfold insGo
  rw [List.foldl_append]
  rfl
theorem insAll_snoc (ns : List Bs) (x : Bs) : insAll (ns ++ [x]) = insB x (insAll ns) := by
  unfold insAll
  rw [List.foldl_append]
  rfl
theorem snoc_ind {α : Type} {P : List α → Prop} (h0 : P []) (h1 : ∀ l a, P l → P (l ++ [a])) (l : List α) : P l := by
  have go : ∀ r : List α, P r.reverse := by
    intro r
    induction r with
    | nil => exact h0
    | cons a r ih => rw [List.reverse_cons]; exact h1 _ _ ih
  have := go l.reverse
  rwa [List.reverse_reverse] at this
theorem insGo_perm (x : Bs) : ∀ l : List Bs, (insGo x l).1.Perm (if (insGo x l).2 then x :: l else l) := by
  intro l
  refine snoc_ind (P := fun l => (insGo x l).1.Perm (if (insGo x l).2 then x :: l else l)) (List.Perm.refl _) (fun l y ih => ?_) l
  · skip
    rw [insGo_snoc]
    unfold insStep
    by_cases h : (insGo x l).2 = false ∧ x < y
    · rw [if_pos h]
      rw [h.1] at ih
      simp only [Bool.false_eq_true, if_false] at ih
      simp only [if_true]
      refine (ih.append_right [x, y]).trans ?_
      refine List.Perm.trans ?_ (List.perm_middle (a := x) (l₁ := l) (l₂ := [y])).symm.symm
      exact List.Perm.refl _
    · rw [if_neg h]
      simp only
      refine (ih.append_right [y]).trans ?_
      split <;> exact List.Perm.refl _
theorem insB_perm (x : Bs) (l : List Bs) : (insB x l).Perm (x :: l) := by
  have h := insGo_perm x l
  unfold insB
  by_cases hd : (insGo x l).2 = false
  · rw [if_pos hd]
    rw [hd] at h
    exact (h.append_right [x]).trans (List.perm_append_singleton x l)
  · rw [if_neg hd]
    rw [Bool.not_eq_false] at hd
    rw [hd] at h
    exact h
theorem insAll_perm (ns : List Bs) : (insAll ns).Perm ns := by
  refine snoc_ind (P := fun ns => (insAll ns).Perm ns) (List.Perm.refl _) (fun l x ih => ?_) ns
  · skip
    rw [insAll_snoc]
    exact (insB_perm x _).trans ((ih.cons x).trans (List.perm_append_singleton x l).symm)
theorem bs_le_of_not_lt {a b : Bs} (h : ¬ a < b) : b ≤ a := h
theorem bs_lt_le {a b : Bs} (h : a < b) : a ≤ b := List.le_of_lt h
theorem insGo_done (x : Bs) (l : List Bs) : (insGo x l).2 = true → ∃ y ∈ l, x < y := by
  refine snoc_ind (P := fun l => (insGo x l).2 = true → ∃ y ∈ l, x < y) (fun h => by cases h) (fun l y ih => ?_) l
  rw [insGo_snoc]
  unfold insStep
  by_cases h : (insGo x l).2 = false ∧ x < y
  · exact fun _ => ⟨y, by simp, h.2⟩
  · rw [if_neg h]
    intro hd
    obtain ⟨z, hz, hxz⟩ := ih hd
    exact ⟨z, by simp [hz], hxz⟩
theorem insGo_sorted (x : Bs) (l : List Bs) : l.Pairwise (· ≤ ·) → (insGo x l).1.Pairwise (· ≤ ·) ∧ ((insGo x l).2 = false → ∀ y ∈ (insGo x l).1, y ≤ x) := by
  refine snoc_ind (P := fun l => l.Pairwise (· ≤ ·) → (insGo x l).1.Pairwise (· ≤ ·) ∧ ((insGo x l).2 = false → ∀ y ∈ (insGo x l).1, y ≤ x)) (fun _ => ⟨List.Pairwise.nil, fun _ y hy => by cases hy⟩) (fun l y ih => ?_) l
  intro hs
  rw [List.pairwise_append] at hs
  obtain ⟨h1, _, h3⟩ := hs
  obtain ⟨i1, i2⟩ := ih h1
  have hp := insGo_perm x l
  rw [insGo_snoc]
  unfold insStep
  by_cases h : (insGo x l).2 = false ∧ x < y
  · rw [if_pos h]
    refine ⟨?_, fun e => by cases e⟩
    rw [List.pairwise_append]
    refine ⟨i1, ?_, ?_⟩
    · simp only [List.pairwise_cons, List.mem_singleton, forall_eq, List.not_mem_nil, false_implies, implies_true, List.Pairwise.nil, and_true]
      exact bs_lt_le h.2
    · intro a ha b hb
      rcases List.mem_cons.1 hb with rfl | hb
      · exact i2 h.1 a ha
      · rw [List.mem_singleton] at hb
        subst hb
        exact List.le_trans (i2 h.1 a ha) (bs_lt_le h.2)
  · rw [if_neg h]
    simp only
    have hle : ∀ z ∈ (insGo x l).1, z ≤ y := by
      intro z hz
      have hm := hp.mem_iff.1 hz
      by_cases hd : (insGo x l).2 = true
      · rw [if_pos hd] at hm
        rcases List.mem_cons.1 hm with rfl | hm
        · obtain ⟨u, hu, hxu⟩ := insGo_done z l hd
          exact List.le_trans (bs_lt_le hxu) (h3 u hu y (List.mem_singleton.2 rfl))
        · exact h3 z hm y (List.mem_singleton.2 rfl)
      · rw [if_neg hd] at hm
        exact h3 z hm y (List.mem_singleton.2 rfl)
    refine ⟨?_, ?_⟩
    · rw [List.pairwise_append]
      exact ⟨i1, List.pairwise_singleton _ _, fun a ha b hb => by rw [List.mem_singleton] at hb; subst hb; exact hle a ha⟩
    · intro hd z hz
      rw [List.mem_append, List.mem_singleton] at hz
      rcases hz with hz | rfl
      · exact i2 hd z hz
      · exact bs_le_of_not_lt fun hx => h ⟨hd, hx⟩
theorem insB_sorted (x : Bs) {l : List Bs} (h : l.Pairwise (· ≤ ·)) : (insB x l).Pairwise (· ≤ ·) := by
  obtain ⟨h1, h2⟩ := insGo_sorted x l h
  unfold insB
  by_cases hd : (insGo x l).2 = false
  · rw [if_pos hd, List.pairwise_append]
    exact ⟨h1, List.pairwise_singleton _ _, fun a ha b hb => by rw [List.mem_singleton] at hb; subst hb; exact h2 hd a ha⟩
  · rw [if_neg hd]
    exact h1
theorem insAll_sorted (ns : List Bs) : (insAll ns).Pairwise (· ≤ ·) := by
  refine snoc_ind (P := fun ns => (insAll ns).Pairwise (· ≤ ·)) List.Pairwise.nil (fun l x ih => ?_) ns
  rw [insAll_snoc]
  exact insB_sorted x ih
theorem insAll_length (ns : List Bs) : (insAll ns).length = ns.length := (insAll_perm ns).length_eq
theorem insGo_length (x : Bs) (l : List Bs) : (insGo x l).1.length ≤ l.length + 1 := by
  have := (insGo_perm x l).length_eq
  rw [this]
  split <;> simp
theorem listed_ins (l : Files) : listed l = insAll (names l) := by
  unfold listed
  rw [← mergeSort_of_perm (insAll_perm (names l))]
  exact List.mergeSort_of_pairwise ((insAll_sorted (names l)).imp fun {a b} h => by simpa [leB] using h)
end Go.Proofs.Yteilnbnnhocciaa.D

/-! D42 -/
set_option linter.unusedVariables false
set_option linter.unusedSimpArgs false
namespace Go.Proofs.Yteilnbnnhocciaa.D
open Go.RowKit Go.Maps Go.ChangeMaps Go.MapKept Go.WideMaps Go.Sort Go.Proofs.YteilnbnnhocciaaW.PrintWords Go.Proofs.YteilnbnnhocciaaW.PrintLast Go.Proofs.YteilnbnnhocciaaW.PrintMore
theorem info9 : (Try.prog.info? 9).map (fun i => (i.zero, i.size, i.bytes)) = some (some (.string ⟨#[]⟩), 1, 16) := by kernel_rfl
theorem news1 {w : World} {g t : Nat} {a : Value} (h : w.heap[g]? = some (.cells #[a] t (0, 0))) : ∀ j u, ([a] : List Value)[j]? = some u → w.cell? ((⟨g, 0, none⟩ : Addr).add j) = some u := by
  intro j u hj
  rw [add_plain]
  match j, hj with
  | 0, hj => cases hj; simp [World.cell?, h]
  | j + 1, hj => simp at hj
def strs (l : List Bs) : List Value := l.map encStr
theorem strs_app (a b : List Bs) : strs (a ++ b) = strs a ++ strs b := by simp [strs]
theorem row_below {w w' : World} {b : Nat} {e : TypeId} {z n : Nat} {v : Value} {xs : List Value} (h : w.ownsRow b e z v n xs) (hb : Below w.heap.size w w') : w'.ownsRow b e z v n xs :=
  h.kept (grown_of_below hb none) (by cases v.ownBlock <;> simp)
theorem names_at {l : Files} {i : Nat} {x : ByteArray × FileV} (h : l[i]? = some x) : names (l.take (i + 1)) = names (l.take i) ++ [x.1.data.toList] := by
  obtain ⟨hi, he⟩ := List.getElem?_eq_some_iff.1 h
  rw [List.take_succ_eq_append_getElem hi, he]
  simp [names]
theorem of_list (n : ByteArray) : (⟨n.data.toList.toArray⟩ : ByteArray) = n := by simp
theorem bytesLess_of {a b : ByteArray} {x y : Bs} (ha : a = ⟨x.toArray⟩) (hb : b = ⟨y.toArray⟩) : Op.bytesLess a.toList b.toList = decide (x < y) := by
  rw [bytesLess_eq, ha, hb, ByteArray.toList_eq, ByteArray.toList_eq]
def RListPost (l : Files) (w : World) (e : Ending) (w' : World) : Prop := ∃ v : Value, e = .returned v ∧ w'.ownsRow w.heap.size 9 1 v l.length (strs (listed l)) ∧ Below w.heap.size w w'
set_option maxRecDepth 100000 in
set_option maxHeartbeats 2000000 in
theorem rlist_on {w : World} {base q : Nat} {v : Value} {k : Dk} (h : IsRef w base q v k) (hl : k.files.length ≤ 1000) : Calls Try.prog 44 #[dp q] w (RListPost k.files w) := by
  have c0 := h.c0
  have H := Hush.mk h
  obtain ⟨A, cap, rfl⟩ := own_slice h.own
  obtain ⟨i0, hi0, hz0, hz1, hz2⟩ := info_parts info9
  have HI := Hush.mk (And.intro hi0 (And.intro hz0 (And.intro hz1 hz2)))
  clear h hi0 hz0 hz1 hz2
  go_enter Try.func44, Try.ntmps44
  go_wp2
  go_loopw [3, 15] (fun ov iv wr => ∃ i : Nat, i ≤ k.files.length ∧ iv = .int .i64 (i : Nat) ∧ Hush (wr.ownsRow w.heap.size 9 1 ov i (strs (insAll (names (k.files.take i)))) ∧ Below w.heap.size w wr)) (fun _ iv _ => k.files.length - (intOf iv).toNat)
  case atStart => exact ⟨0, Nat.zero_le _, rfl, ⟨World.ownsRow_nil _ _ _ _, Below.refl _ _⟩⟩
  case round =>
    obtain ⟨i, hi, rfl, HR⟩ := hrel
    obtain ⟨A3, cap3, rfl⟩ := own_slice HR.out.1
    by_cases hlt : i < k.files.length
    · obtain ⟨g, cap', hv, hgq, _, hglt, _, hat⟩ := (H.out.below HR.out.2).at_ (by omega)
      obtain ⟨x, hx⟩ := list_at hlt
      obtain ⟨a1, a2, a3, _, _⟩ := hat i x hx
      cases hv
      have hlt2 : (i : Int) < (k.files.length : Int) := by omega
      have HNS := Hush.mk (names_at hx)
      obtain ⟨nm, f⟩ := x
      obtain ⟨s, su⟩ := f
      simp only at a1 a2 a3 HNS
      obtain ⟨out, hout⟩ : ∃ out, out = insAll (names (k.files.take i)) := ⟨_, rfl⟩
      have HOL : Hush (out.length = i) := ⟨by rw [hout, insAll_length]; simp [names]; omega⟩
      have HOUT := Hush.mk hout
      rw [← hout] at HR
      clear hx hat hgq hglt hout
      obtain ⟨wo, rfl⟩ : ∃ wo : World, wo = wr := ⟨_, rfl⟩
      have HW0 := Hush.mk (World.alloc_heap_new wo (.cells #[.string nm, .string s, .int .i64 su] 79))
      have HOW1 := Hush.mk (HR.out.1.alloc (.cells #[.string nm, .string s, .int .i64 su] 79))
      have HB1 := Hush.mk (HR.out.2.alloc HR.out.2.size (.cells #[.string nm, .string s, .int .i64 su] 79))
      have hz1 : (wo.alloc (.cells #[.string nm, .string s, .int .i64 su] 79)).heap.size = wo.heap.size + 1 := by simp
      have HZ1 := Hush.mk hz1
      clear hz1
      go_wp2
      generalize wo.alloc (.cells #[.string nm, .string s, .int .i64 su] 79) = wi at HW0 HOW1 HB1 HZ1 ⊢
      go_loopw [6, 7, 21] (fun nv dv jv wr => ∃ j : Nat, j ≤ i ∧ jv = .int .i64 (j : Nat) ∧ dv = .bool (insGo nm.data.toList (out.take j)).2 ∧ Hush (wr.ownsRow wi.heap.size 9 1 nv (insGo nm.data.toList (out.take j)).1.length (strs (insGo nm.data.toList (out.take j)).1) ∧ Below wi.heap.size wi wr)) (fun _ _ jv _ => i - (intOf jv).toNat)
      case atStart => exact ⟨0, Nat.zero_le _, rfl, rfl, ⟨World.ownsRow_nil _ _ _ _, Below.refl _ _⟩⟩
      case round =>
        obtain ⟨j, hj, rfl, rfl, HJ⟩ := hrel
        obtain ⟨A6, cap6, rfl⟩ := own_slice HJ.out.1
        have HB2 : Hush (Below wi.heap.size wi wr ∧ wr.heap[wo.heap.size]? = some (.cells #[.string nm, .string s, .int .i64 su] 79 (0, 0))) := ⟨HJ.out.2, (HJ.out.2.block _ (by have := HZ1.out; omega)).trans HW0.out⟩
        have x0 := (cells3 HB2.out.2).1
        have HGL : Hush ((insGo nm.data.toList (out.take j)).1.length ≤ j + 1) := ⟨Nat.le_trans (insGo_length _ _) (by simp; omega)⟩
        by_cases hjl : j < i
        · obtain ⟨y, hy⟩ : ∃ y, out[j]? = some y := ⟨_, List.getElem?_eq_getElem (by have := HOL.out; omega)⟩
          have HST : Hush (insGo nm.data.toList (out.take (j + 1)) = insStep nm.data.toList (insGo nm.data.toList (out.take j)) y) := ⟨by
            obtain ⟨hjj, he⟩ := List.getElem?_eq_some_iff.1 hy
            rw [List.take_succ_eq_append_getElem hjj, insGo_snoc, he]⟩
          obtain ⟨ym, hym⟩ : ∃ ym : ByteArray, ym = ⟨y.toArray⟩ := ⟨_, rfl⟩
          have hor := row_below HOW1.out HJ.out.2
          have hcy : ∃ go : Nat, A3 = some ⟨go, 0, none⟩ ∧ wr.cell? ⟨go, j, none⟩ = some (.string ym) := by
            obtain ⟨go, co, he, _, _⟩ := hor.form (by omega)
            cases he
            refine ⟨go, rfl, ?_⟩
            have h1 := hor.cellAt j (by omega)
            rw [h1]
            unfold strs
            rw [List.getElem?_map, hy, hym]
            rfl
          obtain ⟨go, rfl, hcy⟩ := hcy
          have hbl := bytesLess_of (of_list nm).symm hym
          have hjl2 : (j : Int) < (i : Int) := by omega
          have HYM := Hush.mk hym
          clear hy hor hym
          generalize insGo nm.data.toList (out.take j) = st at HJ HGL HST ⊢
          obtain ⟨nx, d⟩ := st
          simp only at HJ HGL ⊢
          have hgl := HGL.out
          cases d with
          | true =>
            have HST2 : Hush (insGo nm.data.toList (out.take (j + 1)) = (nx ++ [y], true)) := ⟨by rw [HST.out]; unfold insStep; rw [if_neg (by simp)]⟩
            clear hbl
            have hn := World.alloc_heap_new wr (.cells #[.string ym] 9)
            have HNW := Hush.mk hn
            have HSZ : Hush (wi.heap.size ≤ wr.heap.size) := ⟨HJ.out.2.size⟩
            clear hn
            go_wp2_with ((at_builtin; refine wpList_append_lies _ rfl _ _ 30 rfl wi.heap.size 9 i0 _ 1 16 Try.underlying30 HI.out.1 HI.out.2.1 HI.out.2.2.1 HI.out.2.2.2 rfl (by decide) (.slice A6 nx.length cap6) nx.length (strs nx) rfl (HJ.out.1.alloc _) ⟨wr.heap.size, 0, none⟩ 1 1 [.string ym] rfl rfl (news1 HNW.out) (by simp [Value.oneCell']) (by decide) (by unfold maxLen; omega) (by omega) (by have := HSZ.out; simp; omega) (wr.heap.size + 1) (by simp) ?_; intro gg cc w1 hown1 hgrow hor hgl1; have HO2 : Hush (w1.ownsRow wi.heap.size 9 1 (.slice (some ⟨gg, 0, none⟩) (nx.length + 1) cc) (nx ++ [y]).length (strs (nx ++ [y])) ∧ Below wi.heap.size wi w1) := ⟨(by rw [strs_app, List.length_append]; have := hown1; rw [HYM.out] at this; exact this), (HJ.out.2.alloc HSZ.out _).grown hgrow (by have := HSZ.out; simp; omega) (fun r hr => (HJ.out.1.lt r hr).1)⟩; clear hown1 hgrow hor hgl1))
            exact ⟨⟨j + 1, by omega, by go_num, by rw [HST2.out], ⟨by rw [HST2.out]; exact HO2.out.1, HO2.out.2⟩⟩, by simp [intOf]; omega⟩
          | false =>
            by_cases hxy : nm.data.toList < y
            · have hbt : Op.bytesLess nm.toList ym.toList = true := by rw [hbl]; exact decide_eq_true hxy
              have HST2 : Hush (insGo nm.data.toList (out.take (j + 1)) = (nx ++ [nm.data.toList, y], true)) := ⟨by rw [HST.out]; unfold insStep; rw [if_pos ⟨rfl, hxy⟩]⟩
              clear hbl hxy
              have hn := World.alloc_heap_new wr (.cells #[.string nm] 9)
              have HNW := Hush.mk hn
              have HSZ : Hush (wi.heap.size ≤ wr.heap.size) := ⟨HJ.out.2.size⟩
              clear hn
              go_wp2_with (first | (at_builtin; refine wpList_append_lies _ rfl _ _ 30 rfl wi.heap.size 9 i0 _ 1 16 Try.underlying30 HI.out.1 HI.out.2.1 HI.out.2.2.1 HI.out.2.2.2 rfl (by decide) (.slice A6 nx.length cap6) (nx.length) (strs nx) rfl (HJ.out.1.alloc _) ⟨wr.heap.size, 0, none⟩ 1 1 [.string nm] rfl rfl (news1 HNW.out) (by simp [Value.oneCell']) (by decide) (by unfold maxLen; omega) (by omega) (by have := HSZ.out; simp; omega) (wr.heap.size + 1) (by simp) ?_; intro gg cc w1 hown1 hgrow hor hgl1; have HSZ1 : Hush (wi.heap.size ≤ w1.heap.size) := ⟨(by have := hgrow.size; have := HSZ.out; simp at *; omega)⟩; have HOX : Hush (w1.ownsRow wi.heap.size 9 1 (.slice (some ⟨gg, 0, none⟩) (nx.length + 1) cc) (nx.length + 1) (strs (nx ++ [nm.data.toList])) ∧ Below wi.heap.size wi w1) := ⟨(by rw [strs_app]; have h9 := hown1; rw [← of_list nm] at h9; exact h9), (HJ.out.2.alloc HSZ.out _).grown hgrow (by have := HSZ.out; simp; omega) (fun r hr => (HJ.out.1.lt r hr).1)⟩; have hn1 := World.alloc_heap_new w1 (.cells #[.string ym] 9); have HN1 := Hush.mk hn1; clear hown1 hgrow hor hgl1 hn1) | (at_builtin; refine wpList_append_lies _ rfl _ _ 30 rfl wi.heap.size 9 i0 _ 1 16 Try.underlying30 HI.out.1 HI.out.2.1 HI.out.2.2.1 HI.out.2.2.2 rfl (by decide) (.slice (some ⟨gg, 0, none⟩) (nx.length + 1) cc) (nx.length + 1) (strs (nx ++ [nm.data.toList])) rfl (HOX.out.1.alloc _) ⟨w1.heap.size, 0, none⟩ 1 1 [.string ym] rfl rfl (news1 HN1.out) (by simp [Value.oneCell']) (by decide) (by unfold maxLen; omega) (by omega) (by have := HSZ1.out; simp; omega) (w1.heap.size + 1) (by simp) ?_; intro g2 c2 w2 hown2 hgrow2 hor2 hgl2; have HO2 : Hush (w2.ownsRow wi.heap.size 9 1 (.slice (some ⟨g2, 0, none⟩) (nx.length + 1 + 1) c2) (nx ++ [nm.data.toList, y]).length (strs (nx ++ [nm.data.toList, y])) ∧ Below wi.heap.size wi w2) := ⟨(by rw [show nx ++ [nm.data.toList, y] = (nx ++ [nm.data.toList]) ++ [y] from by simp, strs_app, List.length_append, List.length_append]; have h9 := hown2; rw [HYM.out] at h9; exact h9), (HOX.out.2.alloc HSZ1.out _).grown hgrow2 (by have := HSZ1.out; simp; omega) (fun r hr => (HOX.out.1.lt r hr).1)⟩; clear hown2 hgrow2 hor2 hgl2))
              exact ⟨⟨j + 1, by omega, by go_num, by rw [HST2.out], ⟨by rw [HST2.out]; exact HO2.out.1, HO2.out.2⟩⟩, by simp [intOf]; omega⟩
            · have hbt : Op.bytesLess nm.toList ym.toList = false := by rw [hbl]; exact decide_eq_false hxy
              have HST2 : Hush (insGo nm.data.toList (out.take (j + 1)) = (nx ++ [y], false)) := ⟨by rw [HST.out]; unfold insStep; rw [if_neg (fun h => hxy h.2)]⟩
              clear hbl hxy
              have hn := World.alloc_heap_new wr (.cells #[.string ym] 9)
              have HNW := Hush.mk hn
              have HSZ : Hush (wi.heap.size ≤ wr.heap.size) := ⟨HJ.out.2.size⟩
              clear hn
              go_wp2_with ((at_builtin; refine wpList_append_lies _ rfl _ _ 30 rfl wi.heap.size 9 i0 _ 1 16 Try.underlying30 HI.out.1 HI.out.2.1 HI.out.2.2.1 HI.out.2.2.2 rfl (by decide) (.slice A6 nx.length cap6) nx.length (strs nx) rfl (HJ.out.1.alloc _) ⟨wr.heap.size, 0, none⟩ 1 1 [.string ym] rfl rfl (news1 HNW.out) (by simp [Value.oneCell']) (by decide) (by unfold maxLen; omega) (by omega) (by have := HSZ.out; simp; omega) (wr.heap.size + 1) (by simp) ?_; intro gg cc w1 hown1 hgrow hor hgl1; have HO2 : Hush (w1.ownsRow wi.heap.size 9 1 (.slice (some ⟨gg, 0, none⟩) (nx.length + 1) cc) (nx ++ [y]).length (strs (nx ++ [y])) ∧ Below wi.heap.size wi w1) := ⟨(by rw [strs_app, List.length_append]; have := hown1; rw [HYM.out] at this; exact this), (HJ.out.2.alloc HSZ.out _).grown hgrow (by have := HSZ.out; simp; omega) (fun r hr => (HJ.out.1.lt r hr).1)⟩; clear hown1 hgrow hor hgl1))
              exact ⟨⟨j + 1, by omega, by go_num, by rw [HST2.out], ⟨by rw [HST2.out]; exact HO2.out.1, HO2.out.2⟩⟩, by simp [intOf]; omega⟩
        · obtain rfl : j = i := by omega
          have HT : Hush (insGo nm.data.toList (out.take j) = insGo nm.data.toList out) := ⟨by rw [List.take_of_length_le (by have := HOL.out; omega)]⟩
          have HIN : Hush (insAll (names (k.files.take (j + 1))) = if (insGo nm.data.toList out).2 = false then (insGo nm.data.toList out).1 ++ [nm.data.toList] else (insGo nm.data.toList out).1) := ⟨by rw [HNS.out, insAll_snoc, ← HOUT.out]; rfl⟩
          have HLN : Hush ((insAll (names (k.files.take (j + 1)))).length = j + 1) := ⟨by rw [insAll_length]; simp [names]; omega⟩
          rw [HT.out] at HJ HGL ⊢
          have hgl := HGL.out
          have HBW : Hush (w.heap.size ≤ wi.heap.size) := ⟨HB1.out.size⟩
          generalize insGo nm.data.toList out = st at HJ HGL HIN hgl ⊢
          obtain ⟨nx, d⟩ := st
          simp only at HJ HGL HIN hgl ⊢
          cases d with
          | true =>
            have HE : Hush (insAll (names (k.files.take (j + 1))) = nx) := ⟨HIN.out⟩
            have HLX : Hush (nx.length = j + 1) := ⟨by rw [← HE.out]; exact HLN.out⟩
            have HF : Hush (wr.ownsRow w.heap.size 9 1 (.slice A6 nx.length cap6) (j + 1) (strs (insAll (names (k.files.take (j + 1))))) ∧ Below w.heap.size w wr) := ⟨by
              rw [HE.out]
              have h1 := row_base HJ.out.1 HBW.out
              rw [HLX.out] at h1 ⊢
              exact h1, HB1.out.trans (HJ.out.2.mono HBW.out)⟩
            go_wp2
            exact ⟨⟨j + 1, by omega, by go_num, HF⟩, by simp [intOf]; omega⟩
          | false =>
            have HE : Hush (insAll (names (k.files.take (j + 1))) = nx ++ [nm.data.toList]) := ⟨HIN.out⟩
            have HLX : Hush (nx.length = j) := ⟨by have := HLN.out; rw [HE.out, List.length_append] at this; simpa using this⟩
            have hn := World.alloc_heap_new wr (.cells #[.string nm] 9)
            have HNW := Hush.mk hn
            have HSZ : Hush (wi.heap.size ≤ wr.heap.size) := ⟨HJ.out.2.size⟩
            clear hn
            go_wp2_with ((at_builtin; refine wpList_append_lies _ rfl _ _ 30 rfl wi.heap.size 9 i0 _ 1 16 Try.underlying30 HI.out.1 HI.out.2.1 HI.out.2.2.1 HI.out.2.2.2 rfl (by decide) (.slice A6 nx.length cap6) (nx.length) (strs nx) rfl (HJ.out.1.alloc _) ⟨wr.heap.size, 0, none⟩ 1 1 [.string nm] rfl rfl (news1 HNW.out) (by simp [Value.oneCell']) (by decide) (by unfold maxLen; omega) (by omega) (by have := HSZ.out; simp; omega) (wr.heap.size + 1) (by simp) ?_; intro gg cc w1 hown1 hgrow hor hgl1; have HF : Hush (w1.ownsRow w.heap.size 9 1 (.slice (some ⟨gg, 0, none⟩) (nx.length + 1) cc) (j + 1) (strs (insAll (names (k.files.take (j + 1))))) ∧ Below w.heap.size w w1) := ⟨(by rw [HE.out, strs_app]; have h9 := row_base hown1 HBW.out; rw [← of_list nm, HLX.out] at h9; rw [HLX.out]; exact h9), HB1.out.trans (((HJ.out.2.alloc HSZ.out _).grown hgrow (by have := HSZ.out; simp; omega) (fun r hr => (HJ.out.1.lt r hr).1)).mono HBW.out)⟩; clear hown1 hgrow hor hgl1))
            exact ⟨⟨j + 1, by omega, by go_num, HF⟩, by simp [intOf]; omega⟩
    · obtain rfl : i = k.files.length := by omega
      have HF : Hush (wr.ownsRow w.heap.size 9 1 (.slice A3 k.files.length cap3) k.files.length (strs (listed k.files)) ∧ Below w.heap.size w wr) := ⟨by
        have h1 := HR.out.1
        rw [List.take_of_length_le (Nat.le_refl _), ← listed_ins] at h1
        exact h1, HR.out.2⟩
      go_wp2
      go_ret
      exact ⟨_, rfl, HF.out.1, HF.out.2⟩
end Go.Proofs.Yteilnbnnhocciaa.D

/-! D43 -/
set_option linter.unusedVariables false
set_option linter.unusedSimpArgs false
namespace Go.Proofs.Yteilnbnnhocciaa.D
open Go.RowKit Go.Maps Go.ChangeMaps Go.MapKept Go.WideMaps Go.Sort Go.Proofs.YteilnbnnhocciaaW.PrintWords Go.Proofs.YteilnbnnhocciaaW.PrintLast Go.Proofs.YteilnbnnhocciaaW.PrintMore
theorem strOf_app (a b : List Int) : strOfNums (a ++ b) = strOfNums a ++ strOfNums b := bytes_inj (by rw [show ∀ a b : ByteArray, (a ++ b).data.toList = a.data.toList ++ b.data.toList from fun a b => by cases a with | mk a => cases b with | mk b => simp [ByteArray.mk_append_mk]]; simp [strOfNums])
theorem strOf_bytes (s : ByteArray) : strOfNums (bytesOf s) = s := bytes_inj (by simp [strOfNums, bytesOf, Function.comp_def])
def heldB (f : FileV) (x : FateV) : ByteArray := f.s.extract 0 (f.sure.toNat + keepN f x)
theorem held_bytes (f : FileV) (x : FateV) : bytesOf (heldB f x) = bytesOf (f.s.extract 0 f.sure.toNat) ++ keptL f x := by
  unfold heldB keptL looseB bytesOf
  rw [Lib.extract_data, Lib.extract_data, Lib.extract_data, ← List.map_take, ← List.map_append]
  congr 1
  simp only [List.drop_zero, Nat.sub_zero]
  rw [List.take_add]
  congr 1
  rw [List.take_take]
  congr 1
  have := keepN_le f x
  unfold looseB at this
  rw [ByteArray.size_extract] at this
  omega
def heldL (f : FileV) (x : FateV) : List Int := if 0 ≤ x.at_ ∧ x.at_ < (keepN f x : Int) then (bytesOf (heldB f x)).set (f.sure.toNat + x.at_.toNat) (Go.bits .xor .u8 ((bytesOf (heldB f x)).getD (f.sure.toNat + x.at_.toNat) 0) (x.turn : Int)) else bytesOf (heldB f x)
theorem heldL_length (f : FileV) (x : FateV) : (heldL f x).length = (heldB f x).size := by
  unfold heldL
  split
  · rw [List.length_set, bytesOf_length]
  · rw [bytesOf_length]
theorem fall_ref (f : FileV) (x : FateV) (h0 : 0 ≤ f.sure) (h1 : f.sure ≤ (f.s.size : Int)) : fallF f x = ⟨strOfNums (heldL f x), ((heldB f x).size : Nat)⟩ := by
  have hb := held_bytes f x
  have hz : (bytesOf (f.s.extract 0 f.sure.toNat)).length = f.sure.toNat := by
    rw [bytesOf_length, ByteArray.size_extract]
    omega
  have hs : f.s.extract 0 f.sure.toNat ++ strOfNums (turnedL f x) = strOfNums (heldL f x) := by
    unfold heldL turnedL
    by_cases h : 0 ≤ x.at_ ∧ x.at_ < (keepN f x : Int)
    · have hg : (bytesOf (f.s.extract 0 f.sure.toNat) ++ keptL f x).getD (f.sure.toNat + x.at_.toNat) 0 = (keptL f x).getD x.at_.toNat 0 := by
        rw [List.getD_eq_getElem?_getD, List.getElem?_append_right (by omega), hz, Nat.add_sub_cancel_left, ← List.getD_eq_getElem?_getD]
      rw [if_pos h, if_pos h, hb, hg, List.set_append_right _ _ (by omega), strOf_app, strOf_bytes, hz, Nat.add_sub_cancel_left]
    · rw [if_neg h, if_neg h, hb, strOf_app, strOf_bytes]
  unfold fallF
  rw [hs]
  congr 1
  rw [strOfNums_size, heldL_length]
theorem IsRef.set2 {w : World} {base q g cap : Nat} {k k' : Dk} {i : Nat} {n : ByteArray} {f : FileV} (h : IsRef w base q (.slice (some ⟨g, 0, none⟩) k.files.length cap) k) (hi : k.files[i]? = some (n, f)) (s : ByteArray) (x : Int)
    (hk : k' = { k with files := k.files.set i (n, ⟨s, x⟩) }) : IsRef ((w.setCell ⟨g, i * 3 + 1, none⟩ (.string s)).setCell ⟨g, i * 3 + 2, none⟩ (.int .i64 x)) base q (.slice (some ⟨g, 0, none⟩) k.files.length cap) k' := by
  have h1 := h.setS hi s rfl
  have hlen : ({ k with files := k.files.set i (n, ⟨s, f.sure⟩) } : Dk).files.length = k.files.length := by show (k.files.set i _).length = _; rw [List.length_set]
  have hi1 : ({ k with files := k.files.set i (n, ⟨s, f.sure⟩) } : Dk).files[i]? = some (n, ⟨s, f.sure⟩) := by
    show (k.files.set i _)[i]? = _
    rw [List.getElem?_set_self (List.getElem?_eq_some_iff.1 hi).1]
  rw [← hlen] at h1
  have h2 := h1.setN hi1 x rfl
  rw [hlen] at h2
  have e : k' = { ({ k with files := k.files.set i (n, ⟨s, f.sure⟩) } : Dk) with files := ({ k with files := k.files.set i (n, ⟨s, f.sure⟩) } : Dk).files.set i (n, ⟨s, x⟩) } := by
    rw [hk]
    show Dk.mk _ _ _ _ _ _ = Dk.mk _ _ _ _ _ _
    congr 1
    show _ = (k.files.set i _).set i _
    rw [List.set_set]
  rw [e]
  exact h2
end Go.Proofs.Yteilnbnnhocciaa.D

/-! D44 -/
set_option linter.unusedVariables false
set_option linter.unusedSimpArgs false
namespace Go.Proofs.Yteilnbnnhocciaa.D
open Go.RowKit Go.Maps Go.ChangeMaps Go.MapKept Go.WideMaps Go.Sort Go.Proofs.YteilnbnnhocciaaW.PrintWords Go.Proofs.YteilnbnnhocciaaW.PrintLast Go.Proofs.YteilnbnnhocciaaW.PrintMore
theorem rput_end {w : World} {base q : Nat} {v : Value} {k : Dk} (h : IsRef w base q v k) : IsRef (((w.setCell ⟨q, 5, none⟩ (.bool false)).setCell ⟨q, 3, none⟩ (.int .i64 (-1))).setCell ⟨q, 4, none⟩ (.int .i64 (-1))) base q v { k with down := false, fuse := -1, fault := -1 } :=
  ((h.put (k' := { k with down := false }) 5 _ (by simp [rcells]) rfl).put (k' := { k with down := false, fuse := -1 }) 3 _ (by simp [rcells]) rfl).put 4 _ (by simp [rcells]) rfl
theorem looseF_eq (f : FileV) (h0 : 0 ≤ f.sure) (h1 : f.sure ≤ (f.s.size : Int)) (h2 : f.s.size ≤ 16777216) : looseF f = ((looseB f).size : Int) := by
  rw [looseB_size f h0 h1]
  exact IntWalk.wrap64_in _ ⟨by omega, by omega⟩
theorem setCell_new {S : Nat → Prop} (w : World) (g j : Nat) (u : Value) (n : Nat) (hn : n ≤ g + 1) (w1 : World) (t : Touch S w1 w) (hz : w1.heap.size ≤ g + 1) : Touch S w1 (w.setCell ⟨g + 1, j, none⟩ u).drew := by
  have h := Touch.setCell (S := (· = g + 1)) w ⟨g + 1, j, none⟩ u rfl
  exact ⟨h.os.trans t.os, h.tape.trans t.tape, h.output.trans t.output, Nat.le_trans t.size h.size, fun i hi hs => (h.block i (Nat.lt_of_lt_of_le hi t.size) (by omega)).trans (t.block i hi hs)⟩
def vblk (v : Value) : Nat → Prop := fun b => v.ownBlock = some b
set_option maxRecDepth 100000 in
set_option maxHeartbeats 4000000 in
theorem rcrash_on {w : World} {base q : Nat} {v : Value} {k : Dk} (h : IsRef w base q v k) (gd : Good k) (A : Option Addr) (fs : List FateV) (cf : Nat) (hfs : ∀ gv, v.ownBlock = some gv → FatesAt w q gv A fs) (hfl : fs.length ≤ 1000000) (hft : ∀ x ∈ fs, x.turn < 256) :
    Calls Try.prog 41 #[dp q, .slice A fs.length cf] w (RefPost base q (crashK k fs) (.tuple #[]) w) := by
  have H := Hush.mk h
  have HG := Hush.mk gd
  have HFS := Hush.mk hfs
  have HFT := Hush.mk hft
  have hbs : base ≤ w.heap.size := Nat.le_of_lt (Nat.lt_of_le_of_lt h.ge h.lt)
  have HBS := Hush.mk hbs
  have hkl : k.files.length ≤ 200 := gd.few
  obtain ⟨A0, cap0, rfl⟩ := own_slice h.own
  clear h gd hfs hft hbs
  go_enter Try.func41, Try.ntmps41
  go_wp2_with fail
  refine (rlist_on H.out (by omega)).mono ?_
  rintro e w1 ⟨vl, rfl, ho, hb⟩
  have H1 := Hush.mk (H.out.below hb)
  have HB := Hush.mk hb
  have HO := Hush.mk ho
  obtain ⟨Al, capl, rfl⟩ := own_slice ho
  have HSZ1 : Hush (base ≤ w1.heap.size ∧ w.heap.size ≤ w1.heap.size) := ⟨Nat.le_trans HBS.out hb.size, hb.size⟩
  clear hb ho
  go_wp2
  go_loopw [4, 16] (fun kv iv wr => ∃ j : Nat, j ≤ k.files.length ∧ iv = .int .i64 (j : Nat) ∧ kv = .int .i64 ((crashGo fs k.files ((listed k.files).take j)).2 : Nat) ∧ Hush (IsRef wr base q (.slice A0 k.files.length cap0) { k with files := (crashGo fs k.files ((listed k.files).take j)).1 } ∧ Touch (fun b => b = q ∨ vblk (.slice A0 k.files.length cap0) b) w1 wr)) (fun _ iv _ => k.files.length - (intOf iv).toNat)
  case atStart => exact ⟨0, Nat.zero_le _, rfl, rfl, ⟨H1.out, Touch.refl _ _⟩⟩
  case round =>
    obtain ⟨j, hj, rfl, rfl, HR⟩ := hrel
    obtain ⟨g1, g2, g3⟩ := crashGo_part fs HG.out j hj
    by_cases hlt : j < k.files.length
    · have hl2 : j < (listed k.files).length := by rw [listed_length]; exact hlt
      obtain ⟨x, hx⟩ : ∃ x, x = (listed k.files)[j] := ⟨_, rfl⟩
      have hts : (listed k.files).take (j + 1) = (listed k.files).take j ++ [x] := by rw [List.take_succ_eq_append_getElem hl2, hx]
      have hxm : x ∈ listed k.files := hx ▸ List.getElem_mem hl2
      have hfl2 : (crashGo fs k.files ((listed k.files).take j)).1.length = k.files.length := by have := congrArg List.length g2; simpa using this
      obtain ⟨gb, capb, hvb, hgq, hgb, hglt, hcapb, hat⟩ := HR.out.1.at_ (by show 0 < (crashGo fs k.files ((listed k.files).take j)).1.length; omega)
      have hA0 : A0 = some ⟨gb, 0, none⟩ := by injection hvb
      subst hA0
      have HFA : Hush (FatesAt w q gb A fs) := ⟨HFS.out gb rfl⟩
      have hgw : gb < w.heap.size := by
        have h9 := H.out.own.lt gb rfl
        exact h9.2
      have HGW : Hush (gb < w.heap.size ∧ q < w.heap.size ∧ gb ≠ q ∧ base ≤ gb) := ⟨hgw, H.out.lt, hgq, hgb⟩
      have HTT : Hush (Touch (own2 q gb) w1 wr) := ⟨HR.out.2.mono (fun b hb => hb.imp id (fun e => (Option.some.inj e).symm))⟩
      have HF1 : Hush (FatesAt wr q gb A fs) := ⟨(HFA.out.touch (touch_b HB.out)).touch HTT.out⟩
      obtain ⟨gl, rfl, hgl⟩ : ∃ gl, Al = some ⟨gl, 0, none⟩ ∧ w.heap.size ≤ gl := by
        obtain ⟨gl, cl, e, hle, _⟩ := HO.out.form (by omega)
        injection e with e
        exact ⟨gl, e, hle⟩
      have hc : wr.cell? ⟨gl, j, none⟩ = some (.string ⟨x.toArray⟩) := by
        refine HTT.out.cell (a := ⟨gl, j, none⟩) (by rintro (e | e) <;> (have := HGW.out; simp only at e; omega)) ?_
        rw [HO.out.cellAt j (by omega)]
        unfold strs
        rw [List.getElem?_map, List.getElem?_eq_getElem hl2, ← hx]
        rfl
      have HN : Hush (crashGo fs k.files ((listed k.files).take (j + 1)) = crashOne fs (crashGo fs k.files ((listed k.files).take j)) x) := ⟨by rw [hts, crashGo_snoc]⟩
      have HXM : Hush ((⟨x.toArray⟩ : ByteArray) ∈ (crashGo fs k.files ((listed k.files).take j)).1.map (·.1)) := ⟨by rw [g2, ← mem_listed]; exact hxm⟩
      generalize crashGo fs k.files ((listed k.files).take j) = st at HR HN HXM g1 g2 g3 hfl2 hat ⊢
      obtain ⟨F, c⟩ := st
      have HG1 := Hush.mk g1
      have HC1 : Hush (crashOne fs (F, c) x = if looseF ((find F ⟨x.toArray⟩).getD noFile) = 0 then (F, c) else (upd F ⟨x.toArray⟩ (fallF ((find F ⟨x.toArray⟩).getD noFile) (fs.getD c zeroFate)), c + 1)) := ⟨rfl⟩
      rw [HC1.out] at HN
      obtain ⟨nm, hnm⟩ : ∃ nm : ByteArray, nm = ⟨x.toArray⟩ := ⟨_, rfl⟩
      rw [← hnm] at hc HXM HN
      have g3' : c ≤ j := g3
      have HFL : Hush (F.length = k.files.length) := ⟨hfl2⟩
      have HGO : Hush (crashGo fs k.files ((listed k.files).take j) = (F, c) → True) := ⟨fun _ => trivial⟩
      clear hts hxm hx g1 g2 HC1 hnm g3 hfl2 hat hvb hgq hgb hglt hcapb hgw
      have hFL := HFL.out
      have hjl : (j : Int) < (k.files.length : Int) := by omega
      go_wp2_with fail
      refine (rloose_on HR.out.1 (show F.length ≤ 1000 by omega) nm).mono ?_
      rintro e w4 ⟨rfl, hb4⟩
      have H4 := Hush.mk (HR.out.1.below hb4)
      have T4 := Hush.mk (HR.out.2.trans (Touch.of_below (S := fun b => b = q ∨ vblk (.slice (some ⟨gb, 0, none⟩) k.files.length cap0) b) hb4))
      have T4' : Hush (Touch (own2 q gb) w1 w4) := ⟨HTT.out.trans (touch_b hb4)⟩
      clear hb4 hc
      have hfsome := find_isSome.2 HXM.out
      obtain ⟨f, hf⟩ := Option.isSome_iff_exists.1 hfsome
      have hgd := HG1.out.find (n := nm) hf
      have HLN : Hush (looseN { k with files := F } nm = looseF f) := ⟨by unfold looseN; show looseF ((find F nm).getD noFile) = _; rw [hf]; rfl⟩
      rw [HLN.out]
      rw [hf] at HN
      simp only [Option.getD_some] at HN
      obtain ⟨_, hsz, hs0, hs1⟩ := hgd
      have HLE := looseF_eq f hs0 hs1 hsz
      have HFF := Hush.mk hf
      have HS := Hush.mk (And.intro hsz (And.intro hs0 hs1))
      clear hfsome hf hsz hs0 hs1
      by_cases hz : looseF f = 0
      · have HN2 : Hush (crashGo fs k.files ((listed k.files).take (j + 1)) = (F, c)) := ⟨by rw [HN.out, if_pos hz]⟩
        have hzb : (looseF f == 0) = true := by simpa using hz
        clear hz HLE
        go_wp2
        go_roundw
        case rel => exact ⟨j + 1, by omega, by go_num, by rw [HN2.out], ⟨by rw [HN2.out]; exact H4.out, T4.out⟩⟩
        case measure => simp [intOf]; omega
      · have HN2 : Hush (crashGo fs k.files ((listed k.files).take (j + 1)) = (upd F nm (fallF f (fs.getD c zeroFate)), c + 1)) := ⟨by rw [HN.out, if_neg hz]⟩
        have hzb : (((looseB f).size : Int) == 0) = false := by rw [← HLE]; simpa using hz
        rw [HLE]
        clear hz HLE
        have HF4 : Hush (FatesAt w4 q gb A fs) := ⟨(HFA.out.touch (touch_b HB.out)).touch T4'.out⟩
        obtain ⟨n0, hn0⟩ : ∃ n0, n0 = (looseB f).size := ⟨_, rfl⟩
        rw [← hn0] at hzb ⊢
        have HN0 := Hush.mk hn0
        clear hn0
        have hn1 : (n0 : Int) ≤ 16777216 := by have := HN0.out; have := HS.out; have := looseB_size f HS.out.2.1 HS.out.2.2; omega
        by_cases hcl : c < fs.length
        · obtain ⟨fb, fo, rfl, hap, ham, hcells⟩ := HF4.out (by omega)
          have HX := Hush.mk (HFT.out _ (show fs.getD c zeroFate ∈ fs by rw [List.getD_eq_getElem?_getD, List.getElem?_eq_getElem hcl]; exact List.getElem_mem hcl))
          have bx := fun i v (h : w4.cell? ⟨fb, i, none⟩ = some v) => (((Below.refl _ w4).alloc (Nat.le_refl _) (.cells #[.int .i64 0, .int .i64 0, .int .u8 0] 34)).cell (p := ⟨fb, i, none⟩) (World.block_lt_of_cell? w4 _ h)).trans h
          obtain ⟨q0, q1, q2⟩ := hcells c hcl
          have r0 := bx _ _ q0
          have r1 := bx _ _ q1
          have r2 := bx _ _ q2
          generalize fs.getD c zeroFate = xf at HN2 HX q0 q1 q2 r0 r1 r2
          obtain ⟨keep, at_, turn⟩ := xf
          simp only at q0 q1 q2 r0 r1 r2
          have hcl2 : (c : Int) < (fs.length : Int) := by omega
          clear q0 q1 q2 bx hcells hap ham
          have hkk : (keep < 0) ∨ (∃ kk : Nat, keep = (kk : Int) ∧ (kk : Int) ≤ (n0 : Int)) ∨ ((n0 : Int) < keep) := by
            by_cases a1 : keep < 0
            · exact .inl a1
            · by_cases a2 : keep ≤ (n0 : Int)
              · exact .inr (.inl ⟨keep.toNat, by omega, by omega⟩)
              · exact .inr (.inr (by omega))
          rcases hkk with hk | ⟨kk, rfl, hk⟩ | hk
          · have hat : at_ < 0 ∨ (0 : Int) ≤ at_ := by omega
            rcases hat with hat | hat
            all_goals
              have HKN : Hush (keepN f ⟨keep, at_, turn⟩ = 0) := ⟨by unfold keepN; simp only; rw [if_pos hk]⟩
              go_wp2_with fail
              have H5a := Hush.mk (H4.out.alloc (.cells #[.int .i64 keep, .int .i64 at_, .int .u8 (turn : Nat)] 34))
              have HXa := Hush.mk (World.alloc_heap_new w4 (.cells #[.int .i64 keep, .int .i64 at_, .int .u8 (turn : Nat)] 34))
              have T5a := Hush.mk (T4.out.trans (Touch.alloc w4 (.cells #[.int .i64 keep, .int .i64 at_, .int .u8 (turn : Nat)] 34)))
              refine (find_on H5a.out (show F.length ≤ 1000 by omega) nm).mono ?_
              rintro e w5 ⟨rfl, hb5⟩
              obtain ⟨i, e1, e2, _⟩ := idx_some HFF.out
              rw [show idxOf ({ k with files := F } : Dk).files nm = (i : Int) from e1]
              have HI2 := Hush.mk e2
              have H5 := Hush.mk (H5a.out.below hb5)
              have HX5 := Hush.mk ((hb5.block w4.heap.size (by simp)).trans HXa.out)
              have T5 := Hush.mk (T5a.out.trans (Touch.of_below hb5))
              clear hb5 e1 e2
              obtain ⟨gx, capb', hvb', _, _, _, _, hat⟩ := H5.out.at_ (show 0 < F.length by omega)
              obtain rfl : gb = gx := by injection hvb' with h9; injection h9 with h9; injection h9 with h9
              obtain ⟨a1, a2, a3, _, _⟩ := hat i _ HI2.out
              clear hvb' hat
              have c0 := H5.out.c0
              have hi0 : (0 : Int) ≤ (i : Int) := by omega
              have hi2 : (i : Int) < (k.files.length : Int) := by have := (List.getElem?_eq_some_iff.1 HI2.out).1; omega
              obtain ⟨s, su⟩ := f
              obtain ⟨u, rfl⟩ : ∃ u : Nat, su = (u : Int) := Int.eq_ofNat_of_zero_le HS.out.2.1
              simp only at a1 a2 a3
              have hLs : (u : Int) + (n0 : Int) ≤ (s.size : Int) := by have h8 := looseB_size ⟨s, (u : Int)⟩ HS.out.2.1 HS.out.2.2; rw [← HN0.out] at h8; simp only at h8; omega
              have hss : (s.size : Int) ≤ 16777216 := by have := HS.out.1; simp only at this; omega
              obtain ⟨B, hB⟩ : ∃ B, B = s.extract 0 u := ⟨_, rfl⟩
              have HHB : Hush (heldB ⟨s, (u : Int)⟩ ⟨keep, at_, turn⟩ = B) := ⟨by unfold heldB; rw [HKN.out, hB]; rfl⟩
              have hBs : B.size = u := by rw [hB, ByteArray.size_extract]; omega
              have HBS2 := Hush.mk hBs
              have HFR : Hush (fallF ⟨s, (u : Nat)⟩ ⟨keep, at_, turn⟩ = ⟨strOfNums (heldL ⟨s, (u : Int)⟩ ⟨keep, at_, turn⟩), (B.size : Nat)⟩) := ⟨by rw [fall_ref _ _ HS.out.2.1 HS.out.2.2, HHB.out]⟩
              have hu0 : (0 : Int) ≤ (u : Int) := by omega
              have hsum1 : (((u : Nat) : Int)) ≤ (s.size : Int) := by omega
              have HH6 := Hush.mk (World.alloc_heap_new w5 (.cells #[.string nm, .string s, .int .i64 (u : Nat)] 79))
              have HR6 := Hush.mk (H5.out.alloc (.cells #[.string nm, .string s, .int .i64 (u : Nat)] 79))
              have HX6 := Hush.mk ((Below.heap_alloc w5 (.cells #[.string nm, .string s, .int .i64 (u : Nat)] 79) w4.heap.size (Array.getElem?_eq_some_iff.1 HX5.out).1).trans HX5.out)
              have T6 := Hush.mk (T5.out.trans (Touch.alloc w5 (.cells #[.string nm, .string s, .int .i64 (u : Nat)] 79)))
              have HZ6 : Hush ((w5.alloc (.cells #[.string nm, .string s, .int .i64 (u : Nat)] 79)).heap.size = w5.heap.size + 1) := ⟨by simp⟩
              clear hBs
              go_wp2_with fail
              rw [← hB]
              generalize w5.alloc (.cells #[.string nm, .string s, .int .i64 (u : Nat)] 79) = w6 at HH6 HR6 HX6 T6 HZ6 ⊢
              have hconv := Lib.run_convert_string_bytes (P := Try.prog) w6 9 27 5 B Try.underlying9 Try.underlying27 Try.underlying5
              have hbb : Below w6.heap.size w6 (Lib.bytesWorld w6 5 B) := bytes_below (Below.refl _ _) (Nat.le_refl _) 5 B
              have hbr := bytes_reads w6 5 B (by have := HBS2.out; omega)
              have hbn := Lib.bytesWorld_at_new w6 5 B
              have hcap := grownCap_ge w6 B.size 0 5
              generalize Lib.bytesWorld w6 5 B = w7 at hconv hbb hbr hbn
              generalize grownCap w6 B.size 0 5 = capc at hconv hcap
              rw [HZ6.out] at hbr hbn hconv
              rw [hconv]
              have hH7 := (hbb.block w5.heap.size (by have := HZ6.out; omega)).trans HH6.out
              have hX7 := (hbb.block w4.heap.size (Array.getElem?_eq_some_iff.1 HX6.out).1).trans HX6.out
              have HH7 := Hush.mk hH7
              have HX7 := Hush.mk hX7
              have HBN := Hush.mk hbn
              have HBR := Hush.mk hbr
              have HR7 := Hush.mk (HR6.out.below hbb)
              have T7 := Hush.mk (T6.out.trans (Touch.of_below hbb))
              obtain ⟨x0, x1, x2⟩ := cells3 hX7
              obtain ⟨y0, y1, y2⟩ := cells3 hH7
              have HZ7 : Hush (w5.heap.size + 1 < w7.heap.size) := ⟨(Array.getElem?_eq_some_iff.1 hbn).1⟩
              clear hH7 hX7 hbn hbr hbb hconv hB c0 a1 a2 a3 hi0 hi2
              obtain ⟨bl, hbl⟩ : ∃ bl, bl = heldL ⟨s, (u : Int)⟩ ⟨keep, at_, turn⟩ := ⟨_, rfl⟩
              rw [← hbl] at HFR
              have hbl2 : bl = bytesOf B := by rw [hbl]; unfold heldL; rw [HKN.out, if_neg (by simp only; omega), HHB.out]
              have HBL : Hush (ReadsInt w7 .u8 (some ⟨w5.heap.size + 1, 0, none⟩) B.size bl) := ⟨by rw [hbl2]; exact HBR.out⟩
              have HRW := HR7
              have HTW := T7
              clear hbl hbl2
              go_wp2
              clear x0 x1 x2 y0 y1 y2
              have hd := HRW.out.drew
              obtain ⟨gx, capb', hvb', _, _, _, _, hat⟩ := hd.at_ (show 0 < F.length by omega)
              obtain rfl : gb = gx := by injection hvb' with h9; injection h9 with h9; injection h9 with h9
              obtain ⟨a1, a2, a3, f1, f2⟩ := hat i _ HI2.out
              have c0 := hd.c0
              have hRd : ReadsInt w7.drew .u8 (some ⟨w5.heap.size + 1, 0, none⟩) B.size bl := HBL.out
              have hcv := string_of_reads (P := Try.prog) (src := 27) (dst := 9) (e := 5) (c := capc) Try.underlying27 Try.underlying5 Try.underlying9 hRd
              obtain ⟨R, hR⟩ : ∃ R, R = strOfNums bl := ⟨_, rfl⟩
              rw [← hR] at hcv
              have hK : ({ k with files := F } : Dk).files = F := rfl
              have hset : F.set i (nm, (⟨R, (B.size : Nat)⟩ : FileV)) = upd F nm (fallF ⟨s, (u : Nat)⟩ ⟨keep, at_, turn⟩) := by rw [HFR.out, ← hR]; exact set_upd HG1.out.nodup HI2.out _
              have hown9 := hd
              have hlen9 : ({ k with files := F } : Dk).files.length = k.files.length := HFL.out
              have HP : Hush (IsRef ((w7.drew.setCell ⟨gb, i * 3 + 1, none⟩ (.string R)).setCell ⟨gb, i * 3 + 2, none⟩ (.int .i64 (B.size : Nat))) base q (.slice (some ⟨gb, 0, none⟩) k.files.length cap0) { k with files := upd F nm (fallF ⟨s, (u : Nat)⟩ ⟨keep, at_, turn⟩) }) := ⟨by
                have h9 := hd
                rw [← hlen9] at h9
                have h8 := h9.set2 (k' := { k with files := upd F nm (fallF ⟨s, (u : Nat)⟩ ⟨keep, at_, turn⟩) }) (i := i) (n := nm) (f := ⟨s, (u : Nat)⟩) HI2.out R (B.size : Nat) (by rw [← hset])
                rw [hlen9] at h8
                exact h8⟩
              have HTF : Hush (Touch (fun b => b = q ∨ vblk (.slice (some ⟨gb, 0, none⟩) k.files.length cap0) b) w1 ((w7.drew.setCell ⟨gb, i * 3 + 1, none⟩ (.string R)).setCell ⟨gb, i * 3 + 2, none⟩ (.int .i64 (B.size : Nat)))) := ⟨((HTW.out.trans (Touch.drew _)).trans (Touch.setCell (S := fun b => b = q ∨ vblk (.slice (some ⟨gb, 0, none⟩) k.files.length cap0) b) _ ⟨gb, i * 3 + 1, none⟩ _ (Or.inr rfl))).trans (Touch.setCell _ ⟨gb, i * 3 + 2, none⟩ _ (Or.inr rfl))⟩
              have hi0 : (0 : Int) ≤ (i : Int) := by omega
              have hi2 : (i : Int) < (k.files.length : Int) := by have := (List.getElem?_eq_some_iff.1 HI2.out).1; omega
              have hgq1 : gb ≠ q := HGW.out.2.2.1
              have hgq2 : q ≠ gb := fun e => hgq1 e.symm
              simp only at a1 a2 a3
              clear hd hvb' hat hRd hR hset hown9 hlen9 hK
              go_still_tail 9, (by kernel_rfl)
              change wpList _ _ _ _ _ w7.drew
              clear hcv
              generalize w7.drew = w9 at c0 a1 a2 a3 f1 f2 HP HTF ⊢
              go_wp2
              go_roundw
              case rel => exact ⟨j + 1, by omega, by go_num, by rw [HN2.out]; go_num, ⟨by rw [HN2.out]; exact HP.out, HTF.out⟩⟩
              case measure => simp [intOf]; omega
          · by_cases hat : 0 ≤ at_ ∧ at_ < ((kk : Nat) : Int)
            · obtain ⟨a, rfl⟩ := Int.eq_ofNat_of_zero_le hat.1
              have hat2 : (a : Int) < ((kk : Nat) : Int) := hat.2
              clear hat
              have HKN : Hush (keepN f ⟨(kk : Nat), (a : Nat), turn⟩ = kk) := ⟨by unfold keepN; simp only; rw [if_neg (by omega), ← HN0.out, if_pos hk, Int.toNat_natCast]⟩
              go_wp2_with fail
              have H5a := Hush.mk (H4.out.alloc (.cells #[.int .i64 (kk : Nat), .int .i64 (a : Nat), .int .u8 (turn : Nat)] 34))
              have HXa := Hush.mk (World.alloc_heap_new w4 (.cells #[.int .i64 (kk : Nat), .int .i64 (a : Nat), .int .u8 (turn : Nat)] 34))
              have T5a := Hush.mk (T4.out.trans (Touch.alloc w4 (.cells #[.int .i64 (kk : Nat), .int .i64 (a : Nat), .int .u8 (turn : Nat)] 34)))
              refine (find_on H5a.out (show F.length ≤ 1000 by omega) nm).mono ?_
              rintro e w5 ⟨rfl, hb5⟩
              obtain ⟨i, e1, e2, _⟩ := idx_some HFF.out
              rw [show idxOf ({ k with files := F } : Dk).files nm = (i : Int) from e1]
              have HI2 := Hush.mk e2
              have H5 := Hush.mk (H5a.out.below hb5)
              have HX5 := Hush.mk ((hb5.block w4.heap.size (by simp)).trans HXa.out)
              have T5 := Hush.mk (T5a.out.trans (Touch.of_below hb5))
              clear hb5 e1 e2
              obtain ⟨gx, capb', hvb', _, _, _, _, hat⟩ := H5.out.at_ (show 0 < F.length by omega)
              obtain rfl : gb = gx := by injection hvb' with h9; injection h9 with h9; injection h9 with h9
              obtain ⟨a1, a2, a3, _, _⟩ := hat i _ HI2.out
              clear hvb' hat
              have c0 := H5.out.c0
              have hi0 : (0 : Int) ≤ (i : Int) := by omega
              have hi2 : (i : Int) < (k.files.length : Int) := by have := (List.getElem?_eq_some_iff.1 HI2.out).1; omega
              obtain ⟨s, su⟩ := f
              obtain ⟨u, rfl⟩ : ∃ u : Nat, su = (u : Int) := Int.eq_ofNat_of_zero_le HS.out.2.1
              simp only at a1 a2 a3
              have hLs : (u : Int) + (n0 : Int) ≤ (s.size : Int) := by have h8 := looseB_size ⟨s, (u : Int)⟩ HS.out.2.1 HS.out.2.2; rw [← HN0.out] at h8; simp only at h8; omega
              have hss : (s.size : Int) ≤ 16777216 := by have := HS.out.1; simp only at this; omega
              obtain ⟨B, hB⟩ : ∃ B, B = s.extract 0 (u + kk) := ⟨_, rfl⟩
              have HHB : Hush (heldB ⟨s, (u : Int)⟩ ⟨(kk : Nat), (a : Nat), turn⟩ = B) := ⟨by unfold heldB; rw [HKN.out, hB]; rfl⟩
              have hBs : B.size = (u + kk) := by rw [hB, ByteArray.size_extract]; omega
              have HBS2 := Hush.mk hBs
              have HFR : Hush (fallF ⟨s, (u : Nat)⟩ ⟨(kk : Nat), (a : Nat), turn⟩ = ⟨strOfNums (heldL ⟨s, (u : Int)⟩ ⟨(kk : Nat), (a : Nat), turn⟩), (B.size : Nat)⟩) := ⟨by rw [fall_ref _ _ HS.out.2.1 HS.out.2.2, HHB.out]⟩
              have hu0 : (0 : Int) ≤ (u : Int) := by omega
              have hsum1 : ((((u + kk) : Nat) : Int)) ≤ (s.size : Int) := by omega
              have HH6 := Hush.mk (World.alloc_heap_new w5 (.cells #[.string nm, .string s, .int .i64 (u : Nat)] 79))
              have HR6 := Hush.mk (H5.out.alloc (.cells #[.string nm, .string s, .int .i64 (u : Nat)] 79))
              have HX6 := Hush.mk ((Below.heap_alloc w5 (.cells #[.string nm, .string s, .int .i64 (u : Nat)] 79) w4.heap.size (Array.getElem?_eq_some_iff.1 HX5.out).1).trans HX5.out)
              have T6 := Hush.mk (T5.out.trans (Touch.alloc w5 (.cells #[.string nm, .string s, .int .i64 (u : Nat)] 79)))
              have HZ6 : Hush ((w5.alloc (.cells #[.string nm, .string s, .int .i64 (u : Nat)] 79)).heap.size = w5.heap.size + 1) := ⟨by simp⟩
              clear hBs
              go_wp2_with fail
              rw [← hB]
              generalize w5.alloc (.cells #[.string nm, .string s, .int .i64 (u : Nat)] 79) = w6 at HH6 HR6 HX6 T6 HZ6 ⊢
              have hconv := Lib.run_convert_string_bytes (P := Try.prog) w6 9 27 5 B Try.underlying9 Try.underlying27 Try.underlying5
              have hbb : Below w6.heap.size w6 (Lib.bytesWorld w6 5 B) := bytes_below (Below.refl _ _) (Nat.le_refl _) 5 B
              have hbr := bytes_reads w6 5 B (by have := HBS2.out; omega)
              have hbn := Lib.bytesWorld_at_new w6 5 B
              have hcap := grownCap_ge w6 B.size 0 5
              generalize Lib.bytesWorld w6 5 B = w7 at hconv hbb hbr hbn
              generalize grownCap w6 B.size 0 5 = capc at hconv hcap
              rw [HZ6.out] at hbr hbn hconv
              rw [hconv]
              have hH7 := (hbb.block w5.heap.size (by have := HZ6.out; omega)).trans HH6.out
              have hX7 := (hbb.block w4.heap.size (Array.getElem?_eq_some_iff.1 HX6.out).1).trans HX6.out
              have HH7 := Hush.mk hH7
              have HX7 := Hush.mk hX7
              have HBN := Hush.mk hbn
              have HBR := Hush.mk hbr
              have HR7 := Hush.mk (HR6.out.below hbb)
              have T7 := Hush.mk (T6.out.trans (Touch.of_below hbb))
              obtain ⟨x0, x1, x2⟩ := cells3 hX7
              obtain ⟨y0, y1, y2⟩ := cells3 hH7
              have HZ7 : Hush (w5.heap.size + 1 < w7.heap.size) := ⟨(Array.getElem?_eq_some_iff.1 hbn).1⟩
              clear hH7 hX7 hbn hbr hbb hconv hB c0 a1 a2 a3 hi0 hi2
              have hua : u + a < B.size := by have := HBS2.out; omega
              obtain ⟨y, hy⟩ : ∃ y, y = Go.bits .xor .u8 ((bytesOf B).getD (u + a) 0) (turn : Int) := ⟨_, rfl⟩
              obtain ⟨bl, hbl⟩ : ∃ bl, bl = heldL ⟨s, (u : Int)⟩ ⟨(kk : Nat), (a : Nat), turn⟩ := ⟨_, rfl⟩
              rw [← hbl] at HFR
              have hbl2 : bl = (bytesOf B).set (u + a) y := by
                rw [hbl, hy]
                unfold heldL
                rw [HKN.out, if_pos ⟨by simp only; omega, by simp only; omega⟩, HHB.out]
                rfl
              obtain ⟨ad, e, hel⟩ := HBR.out.at_ ((u + a : Nat) : Int) (by omega) (by omega)
              obtain rfl := Option.some.inj e
              rw [Int.toNat_natCast, add_plain] at hel
              rw [show Go.Proofs.YteilnbnnhocciaaW.PrintWords.rd (bytesOf B) ((u + a : Nat) : Int) = (bytesOf B).getD (u + a) 0 from by unfold Go.Proofs.YteilnbnnhocciaaW.PrintWords.rd; rw [Int.toNat_natCast]] at hel
              have HBL : Hush (ReadsInt (w7.setCell ⟨w5.heap.size + 1, u + a, none⟩ (.int .u8 y)).drew .u8 (some ⟨w5.heap.size + 1, 0, none⟩) B.size bl) := ⟨by rw [hbl2]; exact reads_set HBR.out y⟩
              have HRW : Hush (IsRef (w7.setCell ⟨w5.heap.size + 1, u + a, none⟩ (.int .u8 y)).drew base q (.slice (some ⟨gb, 0, none⟩) k.files.length cap0) { k with files := F }) := ⟨(HR7.out.keep (Touch.setCell (S := (· = w5.heap.size + 1)) w7 ⟨w5.heap.size + 1, u + a, none⟩ (.int .u8 y) rfl) (by have := HGW.out.2.1; have := H5.out.lt; omega) (fun gq hgq e => by have h8 := H5.out.own.lt gq hgq; omega)).drew⟩
              have HTW : Hush (Touch (fun b => b = q ∨ vblk (.slice (some ⟨gb, 0, none⟩) k.files.length cap0) b) w1 (w7.setCell ⟨w5.heap.size + 1, u + a, none⟩ (.int .u8 y)).drew) := ⟨setCell_new w7 w5.heap.size (u + a) (.int .u8 y) 0 (Nat.zero_le _) w1 T7.out (by have := T5.out.size; omega)⟩
              have hfz : w7.drew.frozen? ⟨w5.heap.size + 1, u + a, none⟩ = false := bytes_free (show w7.drew.heap[w5.heap.size + 1]? = _ from HBN.out) (Nat.lt_of_lt_of_le hua (bytesCells_size _ _ _))
              have x1' : w7.drew.cell? ⟨w4.heap.size, 1, none⟩ = some (.int .i64 (a : Nat)) := x1
              have x2' : w7.drew.cell? ⟨w4.heap.size, 2, none⟩ = some (.int .u8 (turn : Nat)) := x2
              have y2' : w7.drew.cell? ⟨w5.heap.size, 2, none⟩ = some (.int .i64 (u : Nat)) := y2
              have hel' : w7.drew.cell? ⟨w5.heap.size + 1, u + a, none⟩ = some (.int .u8 ((bytesOf B).getD (u + a) 0)) := hel
              generalize (bytesOf B).getD (u + a) 0 = v0 at hel' hel hy
              have hy' := hy.symm
              have HY := Hush.mk hy'
              have hw := IntWalk.i64_in ((u : Int) + (a : Int)) (by omega)
              have hua1 : (0 : Int) ≤ (u : Int) + (a : Int) := by omega
              have htn : ((u : Int) + (a : Int)).toNat = u + a := by omega
              have hua2 : (u : Int) + (a : Int) < (B.size : Int) := by omega
              clear hbl hbl2 hel hy hy' hua
              go_wp2
              have hy2 := HY.out
              go_still_tail 18, (by kernel_rfl)
              change wpList _ _ _ _ _ w7.drew
              go_wp2
              clear hfz x1' x2' y2' hel' hw hua1 hua2 htn hy2 x0 x1 x2 y0 y1 y2
              generalize (w7.setCell ⟨w5.heap.size + 1, u + a, none⟩ (.int .u8 y)).drew = w8 at HBL HRW HTW ⊢
              have hd := HRW.out.drew
              obtain ⟨gx, capb', hvb', _, _, _, _, hat⟩ := hd.at_ (show 0 < F.length by omega)
              obtain rfl : gb = gx := by injection hvb' with h9; injection h9 with h9; injection h9 with h9
              obtain ⟨a1, a2, a3, f1, f2⟩ := hat i _ HI2.out
              have c0 := hd.c0
              have hRd : ReadsInt w8.drew .u8 (some ⟨w5.heap.size + 1, 0, none⟩) B.size bl := HBL.out
              have hcv := string_of_reads (P := Try.prog) (src := 27) (dst := 9) (e := 5) (c := capc) Try.underlying27 Try.underlying5 Try.underlying9 hRd
              obtain ⟨R, hR⟩ : ∃ R, R = strOfNums bl := ⟨_, rfl⟩
              rw [← hR] at hcv
              have hK : ({ k with files := F } : Dk).files = F := rfl
              have hset : F.set i (nm, (⟨R, (B.size : Nat)⟩ : FileV)) = upd F nm (fallF ⟨s, (u : Nat)⟩ ⟨(kk : Nat), (a : Nat), turn⟩) := by rw [HFR.out, ← hR]; exact set_upd HG1.out.nodup HI2.out _
              have hown9 := hd
              have hlen9 : ({ k with files := F } : Dk).files.length = k.files.length := HFL.out
              have HP : Hush (IsRef ((w8.drew.setCell ⟨gb, i * 3 + 1, none⟩ (.string R)).setCell ⟨gb, i * 3 + 2, none⟩ (.int .i64 (B.size : Nat))) base q (.slice (some ⟨gb, 0, none⟩) k.files.length cap0) { k with files := upd F nm (fallF ⟨s, (u : Nat)⟩ ⟨(kk : Nat), (a : Nat), turn⟩) }) := ⟨by
                have h9 := hd
                rw [← hlen9] at h9
                have h8 := h9.set2 (k' := { k with files := upd F nm (fallF ⟨s, (u : Nat)⟩ ⟨(kk : Nat), (a : Nat), turn⟩) }) (i := i) (n := nm) (f := ⟨s, (u : Nat)⟩) HI2.out R (B.size : Nat) (by rw [← hset])
                rw [hlen9] at h8
                exact h8⟩
              have HTF : Hush (Touch (fun b => b = q ∨ vblk (.slice (some ⟨gb, 0, none⟩) k.files.length cap0) b) w1 ((w8.drew.setCell ⟨gb, i * 3 + 1, none⟩ (.string R)).setCell ⟨gb, i * 3 + 2, none⟩ (.int .i64 (B.size : Nat)))) := ⟨((HTW.out.trans (Touch.drew _)).trans (Touch.setCell (S := fun b => b = q ∨ vblk (.slice (some ⟨gb, 0, none⟩) k.files.length cap0) b) _ ⟨gb, i * 3 + 1, none⟩ _ (Or.inr rfl))).trans (Touch.setCell _ ⟨gb, i * 3 + 2, none⟩ _ (Or.inr rfl))⟩
              have hi0 : (0 : Int) ≤ (i : Int) := by omega
              have hi2 : (i : Int) < (k.files.length : Int) := by have := (List.getElem?_eq_some_iff.1 HI2.out).1; omega
              have hgq1 : gb ≠ q := HGW.out.2.2.1
              have hgq2 : q ≠ gb := fun e => hgq1 e.symm
              simp only at a1 a2 a3
              clear hd hvb' hat hRd hR hset hown9 hlen9 hK
              go_still_tail 9, (by kernel_rfl)
              change wpList _ _ _ _ _ w8.drew
              clear hcv
              generalize w8.drew = w9 at c0 a1 a2 a3 f1 f2 HP HTF ⊢
              go_wp2
              go_roundw
              case rel => exact ⟨j + 1, by omega, by go_num, by rw [HN2.out]; go_num, ⟨by rw [HN2.out]; exact HP.out, HTF.out⟩⟩
              case measure => simp [intOf]; omega
            · have hat : at_ < 0 ∨ ((0 : Int) ≤ at_ ∧ ((kk : Nat) : Int) ≤ at_) := by omega
              rcases hat with hat | ⟨hat, hat3⟩
              all_goals
                have HKN : Hush (keepN f ⟨(kk : Nat), at_, turn⟩ = kk) := ⟨by unfold keepN; simp only; rw [if_neg (by omega), ← HN0.out, if_pos hk, Int.toNat_natCast]⟩
                go_wp2_with fail
                have H5a := Hush.mk (H4.out.alloc (.cells #[.int .i64 (kk : Nat), .int .i64 at_, .int .u8 (turn : Nat)] 34))
                have HXa := Hush.mk (World.alloc_heap_new w4 (.cells #[.int .i64 (kk : Nat), .int .i64 at_, .int .u8 (turn : Nat)] 34))
                have T5a := Hush.mk (T4.out.trans (Touch.alloc w4 (.cells #[.int .i64 (kk : Nat), .int .i64 at_, .int .u8 (turn : Nat)] 34)))
                refine (find_on H5a.out (show F.length ≤ 1000 by omega) nm).mono ?_
                rintro e w5 ⟨rfl, hb5⟩
                obtain ⟨i, e1, e2, _⟩ := idx_some HFF.out
                rw [show idxOf ({ k with files := F } : Dk).files nm = (i : Int) from e1]
                have HI2 := Hush.mk e2
                have H5 := Hush.mk (H5a.out.below hb5)
                have HX5 := Hush.mk ((hb5.block w4.heap.size (by simp)).trans HXa.out)
                have T5 := Hush.mk (T5a.out.trans (Touch.of_below hb5))
                clear hb5 e1 e2
                obtain ⟨gx, capb', hvb', _, _, _, _, hat⟩ := H5.out.at_ (show 0 < F.length by omega)
                obtain rfl : gb = gx := by injection hvb' with h9; injection h9 with h9; injection h9 with h9
                obtain ⟨a1, a2, a3, _, _⟩ := hat i _ HI2.out
                clear hvb' hat
                have c0 := H5.out.c0
                have hi0 : (0 : Int) ≤ (i : Int) := by omega
                have hi2 : (i : Int) < (k.files.length : Int) := by have := (List.getElem?_eq_some_iff.1 HI2.out).1; omega
                obtain ⟨s, su⟩ := f
                obtain ⟨u, rfl⟩ : ∃ u : Nat, su = (u : Int) := Int.eq_ofNat_of_zero_le HS.out.2.1
                simp only at a1 a2 a3
                have hLs : (u : Int) + (n0 : Int) ≤ (s.size : Int) := by have h8 := looseB_size ⟨s, (u : Int)⟩ HS.out.2.1 HS.out.2.2; rw [← HN0.out] at h8; simp only at h8; omega
                have hss : (s.size : Int) ≤ 16777216 := by have := HS.out.1; simp only at this; omega
                obtain ⟨B, hB⟩ : ∃ B, B = s.extract 0 (u + kk) := ⟨_, rfl⟩
                have HHB : Hush (heldB ⟨s, (u : Int)⟩ ⟨(kk : Nat), at_, turn⟩ = B) := ⟨by unfold heldB; rw [HKN.out, hB]; rfl⟩
                have hBs : B.size = (u + kk) := by rw [hB, ByteArray.size_extract]; omega
                have HBS2 := Hush.mk hBs
                have HFR : Hush (fallF ⟨s, (u : Nat)⟩ ⟨(kk : Nat), at_, turn⟩ = ⟨strOfNums (heldL ⟨s, (u : Int)⟩ ⟨(kk : Nat), at_, turn⟩), (B.size : Nat)⟩) := ⟨by rw [fall_ref _ _ HS.out.2.1 HS.out.2.2, HHB.out]⟩
                have hu0 : (0 : Int) ≤ (u : Int) := by omega
                have hsum1 : ((((u + kk) : Nat) : Int)) ≤ (s.size : Int) := by omega
                have HH6 := Hush.mk (World.alloc_heap_new w5 (.cells #[.string nm, .string s, .int .i64 (u : Nat)] 79))
                have HR6 := Hush.mk (H5.out.alloc (.cells #[.string nm, .string s, .int .i64 (u : Nat)] 79))
                have HX6 := Hush.mk ((Below.heap_alloc w5 (.cells #[.string nm, .string s, .int .i64 (u : Nat)] 79) w4.heap.size (Array.getElem?_eq_some_iff.1 HX5.out).1).trans HX5.out)
                have T6 := Hush.mk (T5.out.trans (Touch.alloc w5 (.cells #[.string nm, .string s, .int .i64 (u : Nat)] 79)))
                have HZ6 : Hush ((w5.alloc (.cells #[.string nm, .string s, .int .i64 (u : Nat)] 79)).heap.size = w5.heap.size + 1) := ⟨by simp⟩
                clear hBs
                go_wp2_with fail
                rw [← hB]
                generalize w5.alloc (.cells #[.string nm, .string s, .int .i64 (u : Nat)] 79) = w6 at HH6 HR6 HX6 T6 HZ6 ⊢
                have hconv := Lib.run_convert_string_bytes (P := Try.prog) w6 9 27 5 B Try.underlying9 Try.underlying27 Try.underlying5
                have hbb : Below w6.heap.size w6 (Lib.bytesWorld w6 5 B) := bytes_below (Below.refl _ _) (Nat.le_refl _) 5 B
                have hbr := bytes_reads w6 5 B (by have := HBS2.out; omega)
                have hbn := Lib.bytesWorld_at_new w6 5 B
                have hcap := grownCap_ge w6 B.size 0 5
                generalize Lib.bytesWorld w6 5 B = w7 at hconv hbb hbr hbn
                generalize grownCap w6 B.size 0 5 = capc at hconv hcap
                rw [HZ6.out] at hbr hbn hconv
                rw [hconv]
                have hH7 := (hbb.block w5.heap.size (by have := HZ6.out; omega)).trans HH6.out
                have hX7 := (hbb.block w4.heap.size (Array.getElem?_eq_some_iff.1 HX6.out).1).trans HX6.out
                have HH7 := Hush.mk hH7
                have HX7 := Hush.mk hX7
                have HBN := Hush.mk hbn
                have HBR := Hush.mk hbr
                have HR7 := Hush.mk (HR6.out.below hbb)
                have T7 := Hush.mk (T6.out.trans (Touch.of_below hbb))
                obtain ⟨x0, x1, x2⟩ := cells3 hX7
                obtain ⟨y0, y1, y2⟩ := cells3 hH7
                have HZ7 : Hush (w5.heap.size + 1 < w7.heap.size) := ⟨(Array.getElem?_eq_some_iff.1 hbn).1⟩
                clear hH7 hX7 hbn hbr hbb hconv hB c0 a1 a2 a3 hi0 hi2
                obtain ⟨bl, hbl⟩ : ∃ bl, bl = heldL ⟨s, (u : Int)⟩ ⟨(kk : Nat), at_, turn⟩ := ⟨_, rfl⟩
                rw [← hbl] at HFR
                have hbl2 : bl = bytesOf B := by rw [hbl]; unfold heldL; rw [HKN.out, if_neg (by simp only; omega), HHB.out]
                have HBL : Hush (ReadsInt w7 .u8 (some ⟨w5.heap.size + 1, 0, none⟩) B.size bl) := ⟨by rw [hbl2]; exact HBR.out⟩
                have HRW := HR7
                have HTW := T7
                clear hbl hbl2
                go_wp2
                clear x0 x1 x2 y0 y1 y2
                have hd := HRW.out.drew
                obtain ⟨gx, capb', hvb', _, _, _, _, hat⟩ := hd.at_ (show 0 < F.length by omega)
                obtain rfl : gb = gx := by injection hvb' with h9; injection h9 with h9; injection h9 with h9
                obtain ⟨a1, a2, a3, f1, f2⟩ := hat i _ HI2.out
                have c0 := hd.c0
                have hRd : ReadsInt w7.drew .u8 (some ⟨w5.heap.size + 1, 0, none⟩) B.size bl := HBL.out
                have hcv := string_of_reads (P := Try.prog) (src := 27) (dst := 9) (e := 5) (c := capc) Try.underlying27 Try.underlying5 Try.underlying9 hRd
                obtain ⟨R, hR⟩ : ∃ R, R = strOfNums bl := ⟨_, rfl⟩
                rw [← hR] at hcv
                have hK : ({ k with files := F } : Dk).files = F := rfl
                have hset : F.set i (nm, (⟨R, (B.size : Nat)⟩ : FileV)) = upd F nm (fallF ⟨s, (u : Nat)⟩ ⟨(kk : Nat), at_, turn⟩) := by rw [HFR.out, ← hR]; exact set_upd HG1.out.nodup HI2.out _
                have hown9 := hd
                have hlen9 : ({ k with files := F } : Dk).files.length = k.files.length := HFL.out
                have HP : Hush (IsRef ((w7.drew.setCell ⟨gb, i * 3 + 1, none⟩ (.string R)).setCell ⟨gb, i * 3 + 2, none⟩ (.int .i64 (B.size : Nat))) base q (.slice (some ⟨gb, 0, none⟩) k.files.length cap0) { k with files := upd F nm (fallF ⟨s, (u : Nat)⟩ ⟨(kk : Nat), at_, turn⟩) }) := ⟨by
                  have h9 := hd
                  rw [← hlen9] at h9
                  have h8 := h9.set2 (k' := { k with files := upd F nm (fallF ⟨s, (u : Nat)⟩ ⟨(kk : Nat), at_, turn⟩) }) (i := i) (n := nm) (f := ⟨s, (u : Nat)⟩) HI2.out R (B.size : Nat) (by rw [← hset])
                  rw [hlen9] at h8
                  exact h8⟩
                have HTF : Hush (Touch (fun b => b = q ∨ vblk (.slice (some ⟨gb, 0, none⟩) k.files.length cap0) b) w1 ((w7.drew.setCell ⟨gb, i * 3 + 1, none⟩ (.string R)).setCell ⟨gb, i * 3 + 2, none⟩ (.int .i64 (B.size : Nat)))) := ⟨((HTW.out.trans (Touch.drew _)).trans (Touch.setCell (S := fun b => b = q ∨ vblk (.slice (some ⟨gb, 0, none⟩) k.files.length cap0) b) _ ⟨gb, i * 3 + 1, none⟩ _ (Or.inr rfl))).trans (Touch.setCell _ ⟨gb, i * 3 + 2, none⟩ _ (Or.inr rfl))⟩
                have hi0 : (0 : Int) ≤ (i : Int) := by omega
                have hi2 : (i : Int) < (k.files.length : Int) := by have := (List.getElem?_eq_some_iff.1 HI2.out).1; omega
                have hgq1 : gb ≠ q := HGW.out.2.2.1
                have hgq2 : q ≠ gb := fun e => hgq1 e.symm
                simp only at a1 a2 a3
                clear hd hvb' hat hRd hR hset hown9 hlen9 hK
                go_still_tail 9, (by kernel_rfl)
                change wpList _ _ _ _ _ w7.drew
                clear hcv
                generalize w7.drew = w9 at c0 a1 a2 a3 f1 f2 HP HTF ⊢
                go_wp2
                go_roundw
                case rel => exact ⟨j + 1, by omega, by go_num, by rw [HN2.out]; go_num, ⟨by rw [HN2.out]; exact HP.out, HTF.out⟩⟩
                case measure => simp [intOf]; omega
          · by_cases hat : 0 ≤ at_ ∧ at_ < ((n0 : Nat) : Int)
            · obtain ⟨a, rfl⟩ := Int.eq_ofNat_of_zero_le hat.1
              have hat2 : (a : Int) < ((n0 : Nat) : Int) := hat.2
              clear hat
              have HKN : Hush (keepN f ⟨keep, (a : Nat), turn⟩ = n0) := ⟨by unfold keepN; simp only; rw [if_neg (by omega), ← HN0.out, if_neg (by omega)]⟩
              go_wp2_with fail
              have H5a := Hush.mk (H4.out.alloc (.cells #[.int .i64 keep, .int .i64 (a : Nat), .int .u8 (turn : Nat)] 34))
              have HXa := Hush.mk (World.alloc_heap_new w4 (.cells #[.int .i64 keep, .int .i64 (a : Nat), .int .u8 (turn : Nat)] 34))
              have T5a := Hush.mk (T4.out.trans (Touch.alloc w4 (.cells #[.int .i64 keep, .int .i64 (a : Nat), .int .u8 (turn : Nat)] 34)))
              refine (find_on H5a.out (show F.length ≤ 1000 by omega) nm).mono ?_
              rintro e w5 ⟨rfl, hb5⟩
              obtain ⟨i, e1, e2, _⟩ := idx_some HFF.out
              rw [show idxOf ({ k with files := F } : Dk).files nm = (i : Int) from e1]
              have HI2 := Hush.mk e2
              have H5 := Hush.mk (H5a.out.below hb5)
              have HX5 := Hush.mk ((hb5.block w4.heap.size (by simp)).trans HXa.out)
              have T5 := Hush.mk (T5a.out.trans (Touch.of_below hb5))
              clear hb5 e1 e2
              obtain ⟨gx, capb', hvb', _, _, _, _, hat⟩ := H5.out.at_ (show 0 < F.length by omega)
              obtain rfl : gb = gx := by injection hvb' with h9; injection h9 with h9; injection h9 with h9
              obtain ⟨a1, a2, a3, _, _⟩ := hat i _ HI2.out
              clear hvb' hat
              have c0 := H5.out.c0
              have hi0 : (0 : Int) ≤ (i : Int) := by omega
              have hi2 : (i : Int) < (k.files.length : Int) := by have := (List.getElem?_eq_some_iff.1 HI2.out).1; omega
              obtain ⟨s, su⟩ := f
              obtain ⟨u, rfl⟩ : ∃ u : Nat, su = (u : Int) := Int.eq_ofNat_of_zero_le HS.out.2.1
              simp only at a1 a2 a3
              have hLs : (u : Int) + (n0 : Int) ≤ (s.size : Int) := by have h8 := looseB_size ⟨s, (u : Int)⟩ HS.out.2.1 HS.out.2.2; rw [← HN0.out] at h8; simp only at h8; omega
              have hss : (s.size : Int) ≤ 16777216 := by have := HS.out.1; simp only at this; omega
              obtain ⟨B, hB⟩ : ∃ B, B = s.extract 0 (u + n0) := ⟨_, rfl⟩
              have HHB : Hush (heldB ⟨s, (u : Int)⟩ ⟨keep, (a : Nat), turn⟩ = B) := ⟨by unfold heldB; rw [HKN.out, hB]; rfl⟩
              have hBs : B.size = (u + n0) := by rw [hB, ByteArray.size_extract]; omega
              have HBS2 := Hush.mk hBs
              have HFR : Hush (fallF ⟨s, (u : Nat)⟩ ⟨keep, (a : Nat), turn⟩ = ⟨strOfNums (heldL ⟨s, (u : Int)⟩ ⟨keep, (a : Nat), turn⟩), (B.size : Nat)⟩) := ⟨by rw [fall_ref _ _ HS.out.2.1 HS.out.2.2, HHB.out]⟩
              have hu0 : (0 : Int) ≤ (u : Int) := by omega
              have hsum1 : ((((u + n0) : Nat) : Int)) ≤ (s.size : Int) := by omega
              have HH6 := Hush.mk (World.alloc_heap_new w5 (.cells #[.string nm, .string s, .int .i64 (u : Nat)] 79))
              have HR6 := Hush.mk (H5.out.alloc (.cells #[.string nm, .string s, .int .i64 (u : Nat)] 79))
              have HX6 := Hush.mk ((Below.heap_alloc w5 (.cells #[.string nm, .string s, .int .i64 (u : Nat)] 79) w4.heap.size (Array.getElem?_eq_some_iff.1 HX5.out).1).trans HX5.out)
              have T6 := Hush.mk (T5.out.trans (Touch.alloc w5 (.cells #[.string nm, .string s, .int .i64 (u : Nat)] 79)))
              have HZ6 : Hush ((w5.alloc (.cells #[.string nm, .string s, .int .i64 (u : Nat)] 79)).heap.size = w5.heap.size + 1) := ⟨by simp⟩
              clear hBs
              go_wp2_with fail
              rw [← hB]
              generalize w5.alloc (.cells #[.string nm, .string s, .int .i64 (u : Nat)] 79) = w6 at HH6 HR6 HX6 T6 HZ6 ⊢
              have hconv := Lib.run_convert_string_bytes (P := Try.prog) w6 9 27 5 B Try.underlying9 Try.underlying27 Try.underlying5
              have hbb : Below w6.heap.size w6 (Lib.bytesWorld w6 5 B) := bytes_below (Below.refl _ _) (Nat.le_refl _) 5 B
              have hbr := bytes_reads w6 5 B (by have := HBS2.out; omega)
              have hbn := Lib.bytesWorld_at_new w6 5 B
              have hcap := grownCap_ge w6 B.size 0 5
              generalize Lib.bytesWorld w6 5 B = w7 at hconv hbb hbr hbn
              generalize grownCap w6 B.size 0 5 = capc at hconv hcap
              rw [HZ6.out] at hbr hbn hconv
              rw [hconv]
              have hH7 := (hbb.block w5.heap.size (by have := HZ6.out; omega)).trans HH6.out
              have hX7 := (hbb.block w4.heap.size (Array.getElem?_eq_some_iff.1 HX6.out).1).trans HX6.out
              have HH7 := Hush.mk hH7
              have HX7 := Hush.mk hX7
              have HBN := Hush.mk hbn
              have HBR := Hush.mk hbr
              have HR7 := Hush.mk (HR6.out.below hbb)
              have T7 := Hush.mk (T6.out.trans (Touch.of_below hbb))
              obtain ⟨x0, x1, x2⟩ := cells3 hX7
              obtain ⟨y0, y1, y2⟩ := cells3 hH7
              have HZ7 : Hush (w5.heap.size + 1 < w7.heap.size) := ⟨(Array.getElem?_eq_some_iff.1 hbn).1⟩
              clear hH7 hX7 hbn hbr hbb hconv hB c0 a1 a2 a3 hi0 hi2
              have hua : u + a < B.size := by have := HBS2.out; omega
              obtain ⟨y, hy⟩ : ∃ y, y = Go.bits .xor .u8 ((bytesOf B).getD (u + a) 0) (turn : Int) := ⟨_, rfl⟩
              obtain ⟨bl, hbl⟩ : ∃ bl, bl = heldL ⟨s, (u : Int)⟩ ⟨keep, (a : Nat), turn⟩ := ⟨_, rfl⟩
              rw [← hbl] at HFR
              have hbl2 : bl = (bytesOf B).set (u + a) y := by
                rw [hbl, hy]
                unfold heldL
                rw [HKN.out, if_pos ⟨by simp only; omega, by simp only; omega⟩, HHB.out]
                rfl
              obtain ⟨ad, e, hel⟩ := HBR.out.at_ ((u + a : Nat) : Int) (by omega) (by omega)
              obtain rfl := Option.some.inj e
              rw [Int.toNat_natCast, add_plain] at hel
              rw [show Go.Proofs.YteilnbnnhocciaaW.PrintWords.rd (bytesOf B) ((u + a : Nat) : Int) = (bytesOf B).getD (u + a) 0 from by unfold Go.Proofs.YteilnbnnhocciaaW.PrintWords.rd; rw [Int.toNat_natCast]] at hel
              have HBL : Hush (ReadsInt (w7.setCell ⟨w5.heap.size + 1, u + a, none⟩ (.int .u8 y)).drew .u8 (some ⟨w5.heap.size + 1, 0, none⟩) B.size bl) := ⟨by rw [hbl2]; exact reads_set HBR.out y⟩
              have HRW : Hush (IsRef (w7.setCell ⟨w5.heap.size + 1, u + a, none⟩ (.int .u8 y)).drew base q (.slice (some ⟨gb, 0, none⟩) k.files.length cap0) { k with files := F }) := ⟨(HR7.out.keep (Touch.setCell (S := (· = w5.heap.size + 1)) w7 ⟨w5.heap.size + 1, u + a, none⟩ (.int .u8 y) rfl) (by have := HGW.out.2.1; have := H5.out.lt; omega) (fun gq hgq e => by have h8 := H5.out.own.lt gq hgq; omega)).drew⟩
              have HTW : Hush (Touch (fun b => b = q ∨ vblk (.slice (some ⟨gb, 0, none⟩) k.files.length cap0) b) w1 (w7.setCell ⟨w5.heap.size + 1, u + a, none⟩ (.int .u8 y)).drew) := ⟨setCell_new w7 w5.heap.size (u + a) (.int .u8 y) 0 (Nat.zero_le _) w1 T7.out (by have := T5.out.size; omega)⟩
              have hfz : w7.drew.frozen? ⟨w5.heap.size + 1, u + a, none⟩ = false := bytes_free (show w7.drew.heap[w5.heap.size + 1]? = _ from HBN.out) (Nat.lt_of_lt_of_le hua (bytesCells_size _ _ _))
              have x1' : w7.drew.cell? ⟨w4.heap.size, 1, none⟩ = some (.int .i64 (a : Nat)) := x1
              have x2' : w7.drew.cell? ⟨w4.heap.size, 2, none⟩ = some (.int .u8 (turn : Nat)) := x2
              have y2' : w7.drew.cell? ⟨w5.heap.size, 2, none⟩ = some (.int .i64 (u : Nat)) := y2
              have hel' : w7.drew.cell? ⟨w5.heap.size + 1, u + a, none⟩ = some (.int .u8 ((bytesOf B).getD (u + a) 0)) := hel
              generalize (bytesOf B).getD (u + a) 0 = v0 at hel' hel hy
              have hy' := hy.symm
              have HY := Hush.mk hy'
              have hw := IntWalk.i64_in ((u : Int) + (a : Int)) (by omega)
              have hua1 : (0 : Int) ≤ (u : Int) + (a : Int) := by omega
              have htn : ((u : Int) + (a : Int)).toNat = u + a := by omega
              have hua2 : (u : Int) + (a : Int) < (B.size : Int) := by omega
              clear hbl hbl2 hel hy hy' hua
              go_wp2
              have hy2 := HY.out
              go_still_tail 18, (by kernel_rfl)
              change wpList _ _ _ _ _ w7.drew
              go_wp2
              clear hfz x1' x2' y2' hel' hw hua1 hua2 htn hy2 x0 x1 x2 y0 y1 y2
              generalize (w7.setCell ⟨w5.heap.size + 1, u + a, none⟩ (.int .u8 y)).drew = w8 at HBL HRW HTW ⊢
              have hd := HRW.out.drew
              obtain ⟨gx, capb', hvb', _, _, _, _, hat⟩ := hd.at_ (show 0 < F.length by omega)
              obtain rfl : gb = gx := by injection hvb' with h9; injection h9 with h9; injection h9 with h9
              obtain ⟨a1, a2, a3, f1, f2⟩ := hat i _ HI2.out
              have c0 := hd.c0
              have hRd : ReadsInt w8.drew .u8 (some ⟨w5.heap.size + 1, 0, none⟩) B.size bl := HBL.out
              have hcv := string_of_reads (P := Try.prog) (src := 27) (dst := 9) (e := 5) (c := capc) Try.underlying27 Try.underlying5 Try.underlying9 hRd
              obtain ⟨R, hR⟩ : ∃ R, R = strOfNums bl := ⟨_, rfl⟩
              rw [← hR] at hcv
              have hK : ({ k with files := F } : Dk).files = F := rfl
              have hset : F.set i (nm, (⟨R, (B.size : Nat)⟩ : FileV)) = upd F nm (fallF ⟨s, (u : Nat)⟩ ⟨keep, (a : Nat), turn⟩) := by rw [HFR.out, ← hR]; exact set_upd HG1.out.nodup HI2.out _
              have hown9 := hd
              have hlen9 : ({ k with files := F } : Dk).files.length = k.files.length := HFL.out
              have HP : Hush (IsRef ((w8.drew.setCell ⟨gb, i * 3 + 1, none⟩ (.string R)).setCell ⟨gb, i * 3 + 2, none⟩ (.int .i64 (B.size : Nat))) base q (.slice (some ⟨gb, 0, none⟩) k.files.length cap0) { k with files := upd F nm (fallF ⟨s, (u : Nat)⟩ ⟨keep, (a : Nat), turn⟩) }) := ⟨by
                have h9 := hd
                rw [← hlen9] at h9
                have h8 := h9.set2 (k' := { k with files := upd F nm (fallF ⟨s, (u : Nat)⟩ ⟨keep, (a : Nat), turn⟩) }) (i := i) (n := nm) (f := ⟨s, (u : Nat)⟩) HI2.out R (B.size : Nat) (by rw [← hset])
                rw [hlen9] at h8
                exact h8⟩
              have HTF : Hush (Touch (fun b => b = q ∨ vblk (.slice (some ⟨gb, 0, none⟩) k.files.length cap0) b) w1 ((w8.drew.setCell ⟨gb, i * 3 + 1, none⟩ (.string R)).setCell ⟨gb, i * 3 + 2, none⟩ (.int .i64 (B.size : Nat)))) := ⟨((HTW.out.trans (Touch.drew _)).trans (Touch.setCell (S := fun b => b = q ∨ vblk (.slice (some ⟨gb, 0, none⟩) k.files.length cap0) b) _ ⟨gb, i * 3 + 1, none⟩ _ (Or.inr rfl))).trans (Touch.setCell _ ⟨gb, i * 3 + 2, none⟩ _ (Or.inr rfl))⟩
              have hi0 : (0 : Int) ≤ (i : Int) := by omega
              have hi2 : (i : Int) < (k.files.length : Int) := by have := (List.getElem?_eq_some_iff.1 HI2.out).1; omega
              have hgq1 : gb ≠ q := HGW.out.2.2.1
              have hgq2 : q ≠ gb := fun e => hgq1 e.symm
              simp only at a1 a2 a3
              clear hd hvb' hat hRd hR hset hown9 hlen9 hK
              go_still_tail 9, (by kernel_rfl)
              change wpList _ _ _ _ _ w8.drew
              clear hcv
              generalize w8.drew = w9 at c0 a1 a2 a3 f1 f2 HP HTF ⊢
              go_wp2
              go_roundw
              case rel => exact ⟨j + 1, by omega, by go_num, by rw [HN2.out]; go_num, ⟨by rw [HN2.out]; exact HP.out, HTF.out⟩⟩
              case measure => simp [intOf]; omega
            · have hat : at_ < 0 ∨ ((0 : Int) ≤ at_ ∧ ((n0 : Nat) : Int) ≤ at_) := by omega
              rcases hat with hat | ⟨hat, hat3⟩
              all_goals
                have HKN : Hush (keepN f ⟨keep, at_, turn⟩ = n0) := ⟨by unfold keepN; simp only; rw [if_neg (by omega), ← HN0.out, if_neg (by omega)]⟩
                go_wp2_with fail
                have H5a := Hush.mk (H4.out.alloc (.cells #[.int .i64 keep, .int .i64 at_, .int .u8 (turn : Nat)] 34))
                have HXa := Hush.mk (World.alloc_heap_new w4 (.cells #[.int .i64 keep, .int .i64 at_, .int .u8 (turn : Nat)] 34))
                have T5a := Hush.mk (T4.out.trans (Touch.alloc w4 (.cells #[.int .i64 keep, .int .i64 at_, .int .u8 (turn : Nat)] 34)))
                refine (find_on H5a.out (show F.length ≤ 1000 by omega) nm).mono ?_
                rintro e w5 ⟨rfl, hb5⟩
                obtain ⟨i, e1, e2, _⟩ := idx_some HFF.out
                rw [show idxOf ({ k with files := F } : Dk).files nm = (i : Int) from e1]
                have HI2 := Hush.mk e2
                have H5 := Hush.mk (H5a.out.below hb5)
                have HX5 := Hush.mk ((hb5.block w4.heap.size (by simp)).trans HXa.out)
                have T5 := Hush.mk (T5a.out.trans (Touch.of_below hb5))
                clear hb5 e1 e2
                obtain ⟨gx, capb', hvb', _, _, _, _, hat⟩ := H5.out.at_ (show 0 < F.length by omega)
                obtain rfl : gb = gx := by injection hvb' with h9; injection h9 with h9; injection h9 with h9
                obtain ⟨a1, a2, a3, _, _⟩ := hat i _ HI2.out
                clear hvb' hat
                have c0 := H5.out.c0
                have hi0 : (0 : Int) ≤ (i : Int) := by omega
                have hi2 : (i : Int) < (k.files.length : Int) := by have := (List.getElem?_eq_some_iff.1 HI2.out).1; omega
                obtain ⟨s, su⟩ := f
                obtain ⟨u, rfl⟩ : ∃ u : Nat, su = (u : Int) := Int.eq_ofNat_of_zero_le HS.out.2.1
                simp only at a1 a2 a3
                have hLs : (u : Int) + (n0 : Int) ≤ (s.size : Int) := by have h8 := looseB_size ⟨s, (u : Int)⟩ HS.out.2.1 HS.out.2.2; rw [← HN0.out] at h8; simp only at h8; omega
                have hss : (s.size : Int) ≤ 16777216 := by have := HS.out.1; simp only at this; omega
                obtain ⟨B, hB⟩ : ∃ B, B = s.extract 0 (u + n0) := ⟨_, rfl⟩
                have HHB : Hush (heldB ⟨s, (u : Int)⟩ ⟨keep, at_, turn⟩ = B) := ⟨by unfold heldB; rw [HKN.out, hB]; rfl⟩
                have hBs : B.size = (u + n0) := by rw [hB, ByteArray.size_extract]; omega
                have HBS2 := Hush.mk hBs
                have HFR : Hush (fallF ⟨s, (u : Nat)⟩ ⟨keep, at_, turn⟩ = ⟨strOfNums (heldL ⟨s, (u : Int)⟩ ⟨keep, at_, turn⟩), (B.size : Nat)⟩) := ⟨by rw [fall_ref _ _ HS.out.2.1 HS.out.2.2, HHB.out]⟩
                have hu0 : (0 : Int) ≤ (u : Int) := by omega
                have hsum1 : ((((u + n0) : Nat) : Int)) ≤ (s.size : Int) := by omega
                have HH6 := Hush.mk (World.alloc_heap_new w5 (.cells #[.string nm, .string s, .int .i64 (u : Nat)] 79))
                have HR6 := Hush.mk (H5.out.alloc (.cells #[.string nm, .string s, .int .i64 (u : Nat)] 79))
                have HX6 := Hush.mk ((Below.heap_alloc w5 (.cells #[.string nm, .string s, .int .i64 (u : Nat)] 79) w4.heap.size (Array.getElem?_eq_some_iff.1 HX5.out).1).trans HX5.out)
                have T6 := Hush.mk (T5.out.trans (Touch.alloc w5 (.cells #[.string nm, .string s, .int .i64 (u : Nat)] 79)))
                have HZ6 : Hush ((w5.alloc (.cells #[.string nm, .string s, .int .i64 (u : Nat)] 79)).heap.size = w5.heap.size + 1) := ⟨by simp⟩
                clear hBs
                go_wp2_with fail
                rw [← hB]
                generalize w5.alloc (.cells #[.string nm, .string s, .int .i64 (u : Nat)] 79) = w6 at HH6 HR6 HX6 T6 HZ6 ⊢
                have hconv := Lib.run_convert_string_bytes (P := Try.prog) w6 9 27 5 B Try.underlying9 Try.underlying27 Try.underlying5
                have hbb : Below w6.heap.size w6 (Lib.bytesWorld w6 5 B) := bytes_below (Below.refl _ _) (Nat.le_refl _) 5 B
                have hbr := bytes_reads w6 5 B (by have := HBS2.out; omega)
                have hbn := Lib.bytesWorld_at_new w6 5 B
                have hcap := grownCap_ge w6 B.size 0 5
                generalize Lib.bytesWorld w6 5 B = w7 at hconv hbb hbr hbn
                generalize grownCap w6 B.size 0 5 = capc at hconv hcap
                rw [HZ6.out] at hbr hbn hconv
                rw [hconv]
                have hH7 := (hbb.block w5.heap.size (by have := HZ6.out; omega)).trans HH6.out
                have hX7 := (hbb.block w4.heap.size (Array.getElem?_eq_some_iff.1 HX6.out).1).trans HX6.out
                have HH7 := Hush.mk hH7
                have HX7 := Hush.mk hX7
                have HBN := Hush.mk hbn
                have HBR := Hush.mk hbr
                have HR7 := Hush.mk (HR6.out.below hbb)
                have T7 := Hush.mk (T6.out.trans (Touch.of_below hbb))
                obtain ⟨x0, x1, x2⟩ := cells3 hX7
                obtain ⟨y0, y1, y2⟩ := cells3 hH7
                have HZ7 : Hush (w5.heap.size + 1 < w7.heap.size) := ⟨(Array.getElem?_eq_some_iff.1 hbn).1⟩
                clear hH7 hX7 hbn hbr hbb hconv hB c0 a1 a2 a3 hi0 hi2
                obtain ⟨bl, hbl⟩ : ∃ bl, bl = heldL ⟨s, (u : Int)⟩ ⟨keep, at_, turn⟩ := ⟨_, rfl⟩
                rw [← hbl] at HFR
                have hbl2 : bl = bytesOf B := by rw [hbl]; unfold heldL; rw [HKN.out, if_neg (by simp only; omega), HHB.out]
                have HBL : Hush (ReadsInt w7 .u8 (some ⟨w5.heap.size + 1, 0, none⟩) B.size bl) := ⟨by rw [hbl2]; exact HBR.out⟩
                have HRW := HR7
                have HTW := T7
                clear hbl hbl2
                go_wp2
                clear x0 x1 x2 y0 y1 y2
                have hd := HRW.out.drew
                obtain ⟨gx, capb', hvb', _, _, _, _, hat⟩ := hd.at_ (show 0 < F.length by omega)
                obtain rfl : gb = gx := by injection hvb' with h9; injection h9 with h9; injection h9 with h9
                obtain ⟨a1, a2, a3, f1, f2⟩ := hat i _ HI2.out
                have c0 := hd.c0
                have hRd : ReadsInt w7.drew .u8 (some ⟨w5.heap.size + 1, 0, none⟩) B.size bl := HBL.out
                have hcv := string_of_reads (P := Try.prog) (src := 27) (dst := 9) (e := 5) (c := capc) Try.underlying27 Try.underlying5 Try.underlying9 hRd
                obtain ⟨R, hR⟩ : ∃ R, R = strOfNums bl := ⟨_, rfl⟩
                rw [← hR] at hcv
                have hK : ({ k with files := F } : Dk).files = F := rfl
                have hset : F.set i (nm, (⟨R, (B.size : Nat)⟩ : FileV)) = upd F nm (fallF ⟨s, (u : Nat)⟩ ⟨keep, at_, turn⟩) := by rw [HFR.out, ← hR]; exact set_upd HG1.out.nodup HI2.out _
                have hown9 := hd
                have hlen9 : ({ k with files := F } : Dk).files.length = k.files.length := HFL.out
                have HP : Hush (IsRef ((w7.drew.setCell ⟨gb, i * 3 + 1, none⟩ (.string R)).setCell ⟨gb, i * 3 + 2, none⟩ (.int .i64 (B.size : Nat))) base q (.slice (some ⟨gb, 0, none⟩) k.files.length cap0) { k with files := upd F nm (fallF ⟨s, (u : Nat)⟩ ⟨keep, at_, turn⟩) }) := ⟨by
                  have h9 := hd
                  rw [← hlen9] at h9
                  have h8 := h9.set2 (k' := { k with files := upd F nm (fallF ⟨s, (u : Nat)⟩ ⟨keep, at_, turn⟩) }) (i := i) (n := nm) (f := ⟨s, (u : Nat)⟩) HI2.out R (B.size : Nat) (by rw [← hset])
                  rw [hlen9] at h8
                  exact h8⟩
                have HTF : Hush (Touch (fun b => b = q ∨ vblk (.slice (some ⟨gb, 0, none⟩) k.files.length cap0) b) w1 ((w7.drew.setCell ⟨gb, i * 3 + 1, none⟩ (.string R)).setCell ⟨gb, i * 3 + 2, none⟩ (.int .i64 (B.size : Nat)))) := ⟨((HTW.out.trans (Touch.drew _)).trans (Touch.setCell (S := fun b => b = q ∨ vblk (.slice (some ⟨gb, 0, none⟩) k.files.length cap0) b) _ ⟨gb, i * 3 + 1, none⟩ _ (Or.inr rfl))).trans (Touch.setCell _ ⟨gb, i * 3 + 2, none⟩ _ (Or.inr rfl))⟩
                have hi0 : (0 : Int) ≤ (i : Int) := by omega
                have hi2 : (i : Int) < (k.files.length : Int) := by have := (List.getElem?_eq_some_iff.1 HI2.out).1; omega
                have hgq1 : gb ≠ q := HGW.out.2.2.1
                have hgq2 : q ≠ gb := fun e => hgq1 e.symm
                simp only at a1 a2 a3
                clear hd hvb' hat hRd hR hset hown9 hlen9 hK
                go_still_tail 9, (by kernel_rfl)
                change wpList _ _ _ _ _ w7.drew
                clear hcv
                generalize w7.drew = w9 at c0 a1 a2 a3 f1 f2 HP HTF ⊢
                go_wp2
                go_roundw
                case rel => exact ⟨j + 1, by omega, by go_num, by rw [HN2.out]; go_num, ⟨by rw [HN2.out]; exact HP.out, HTF.out⟩⟩
                case measure => simp [intOf]; omega
        · have hcl2 : (fs.length : Int) ≤ (c : Int) := by omega
          have hz0 : fs.getD c zeroFate = ⟨0, 0, 0⟩ := by rw [List.getD_eq_getElem?_getD, List.getElem?_eq_none (by omega)]; rfl
          rw [hz0] at HN2
          clear hz0
          have HKN : Hush (keepN f ⟨0, 0, 0⟩ = 0) := ⟨by unfold keepN; simp⟩
          go_wp2_with fail
          have H5a := Hush.mk (H4.out.alloc (.cells #[.int .i64 0, .int .i64 0, .int .u8 0] 34))
          have HXa := Hush.mk (World.alloc_heap_new w4 (.cells #[.int .i64 0, .int .i64 0, .int .u8 0] 34))
          have T5a := Hush.mk (T4.out.trans (Touch.alloc w4 (.cells #[.int .i64 0, .int .i64 0, .int .u8 0] 34)))
          refine (find_on H5a.out (show F.length ≤ 1000 by omega) nm).mono ?_
          rintro e w5 ⟨rfl, hb5⟩
          obtain ⟨i, e1, e2, _⟩ := idx_some HFF.out
          rw [show idxOf ({ k with files := F } : Dk).files nm = (i : Int) from e1]
          have HI2 := Hush.mk e2
          have H5 := Hush.mk (H5a.out.below hb5)
          have HX5 := Hush.mk ((hb5.block w4.heap.size (by simp)).trans HXa.out)
          have T5 := Hush.mk (T5a.out.trans (Touch.of_below hb5))
          clear hb5 e1 e2
          obtain ⟨gx, capb', hvb', _, _, _, _, hat⟩ := H5.out.at_ (show 0 < F.length by omega)
          obtain rfl : gb = gx := by injection hvb' with h9; injection h9 with h9; injection h9 with h9
          obtain ⟨a1, a2, a3, _, _⟩ := hat i _ HI2.out
          clear hvb' hat
          have c0 := H5.out.c0
          have hi0 : (0 : Int) ≤ (i : Int) := by omega
          have hi2 : (i : Int) < (k.files.length : Int) := by have := (List.getElem?_eq_some_iff.1 HI2.out).1; omega
          obtain ⟨s, su⟩ := f
          obtain ⟨u, rfl⟩ : ∃ u : Nat, su = (u : Int) := Int.eq_ofNat_of_zero_le HS.out.2.1
          simp only at a1 a2 a3
          have hLs : (u : Int) + (n0 : Int) ≤ (s.size : Int) := by have h8 := looseB_size ⟨s, (u : Int)⟩ HS.out.2.1 HS.out.2.2; rw [← HN0.out] at h8; simp only at h8; omega
          have hss : (s.size : Int) ≤ 16777216 := by have := HS.out.1; simp only at this; omega
          obtain ⟨B, hB⟩ : ∃ B, B = s.extract 0 u := ⟨_, rfl⟩
          have HHB : Hush (heldB ⟨s, (u : Int)⟩ ⟨0, 0, 0⟩ = B) := ⟨by unfold heldB; rw [HKN.out, hB]; rfl⟩
          have hBs : B.size = u := by rw [hB, ByteArray.size_extract]; omega
          have HBS2 := Hush.mk hBs
          have HFR : Hush (fallF ⟨s, (u : Nat)⟩ ⟨0, 0, 0⟩ = ⟨strOfNums (heldL ⟨s, (u : Int)⟩ ⟨0, 0, 0⟩), (B.size : Nat)⟩) := ⟨by rw [fall_ref _ _ HS.out.2.1 HS.out.2.2, HHB.out]⟩
          have hu0 : (0 : Int) ≤ (u : Int) := by omega
          have hsum1 : (((u : Nat) : Int)) ≤ (s.size : Int) := by omega
          have HH6 := Hush.mk (World.alloc_heap_new w5 (.cells #[.string nm, .string s, .int .i64 (u : Nat)] 79))
          have HR6 := Hush.mk (H5.out.alloc (.cells #[.string nm, .string s, .int .i64 (u : Nat)] 79))
          have HX6 := Hush.mk ((Below.heap_alloc w5 (.cells #[.string nm, .string s, .int .i64 (u : Nat)] 79) w4.heap.size (Array.getElem?_eq_some_iff.1 HX5.out).1).trans HX5.out)
          have T6 := Hush.mk (T5.out.trans (Touch.alloc w5 (.cells #[.string nm, .string s, .int .i64 (u : Nat)] 79)))
          have HZ6 : Hush ((w5.alloc (.cells #[.string nm, .string s, .int .i64 (u : Nat)] 79)).heap.size = w5.heap.size + 1) := ⟨by simp⟩
          clear hBs
          go_wp2_with fail
          rw [← hB]
          generalize w5.alloc (.cells #[.string nm, .string s, .int .i64 (u : Nat)] 79) = w6 at HH6 HR6 HX6 T6 HZ6 ⊢
          have hconv := Lib.run_convert_string_bytes (P := Try.prog) w6 9 27 5 B Try.underlying9 Try.underlying27 Try.underlying5
          have hbb : Below w6.heap.size w6 (Lib.bytesWorld w6 5 B) := bytes_below (Below.refl _ _) (Nat.le_refl _) 5 B
          have hbr := bytes_reads w6 5 B (by have := HBS2.out; omega)
          have hbn := Lib.bytesWorld_at_new w6 5 B
          have hcap := grownCap_ge w6 B.size 0 5
          generalize Lib.bytesWorld w6 5 B = w7 at hconv hbb hbr hbn
          generalize grownCap w6 B.size 0 5 = capc at hconv hcap
          rw [HZ6.out] at hbr hbn hconv
          rw [hconv]
          have hH7 := (hbb.block w5.heap.size (by have := HZ6.out; omega)).trans HH6.out
          have hX7 := (hbb.block w4.heap.size (Array.getElem?_eq_some_iff.1 HX6.out).1).trans HX6.out
          have HH7 := Hush.mk hH7
          have HX7 := Hush.mk hX7
          have HBN := Hush.mk hbn
          have HBR := Hush.mk hbr
          have HR7 := Hush.mk (HR6.out.below hbb)
          have T7 := Hush.mk (T6.out.trans (Touch.of_below hbb))
          obtain ⟨x0, x1, x2⟩ := cells3 hX7
          obtain ⟨y0, y1, y2⟩ := cells3 hH7
          have HZ7 : Hush (w5.heap.size + 1 < w7.heap.size) := ⟨(Array.getElem?_eq_some_iff.1 hbn).1⟩
          clear hH7 hX7 hbn hbr hbb hconv hB c0 a1 a2 a3 hi0 hi2
          obtain ⟨bl, hbl⟩ : ∃ bl, bl = heldL ⟨s, (u : Int)⟩ ⟨0, 0, 0⟩ := ⟨_, rfl⟩
          rw [← hbl] at HFR
          have hbl2 : bl = bytesOf B := by rw [hbl]; unfold heldL; rw [HKN.out, if_neg (by simp only; omega), HHB.out]
          have HBL : Hush (ReadsInt w7 .u8 (some ⟨w5.heap.size + 1, 0, none⟩) B.size bl) := ⟨by rw [hbl2]; exact HBR.out⟩
          have HRW := HR7
          have HTW := T7
          clear hbl hbl2
          go_wp2
          clear x0 x1 x2 y0 y1 y2
          have hd := HRW.out.drew
          obtain ⟨gx, capb', hvb', _, _, _, _, hat⟩ := hd.at_ (show 0 < F.length by omega)
          obtain rfl : gb = gx := by injection hvb' with h9; injection h9 with h9; injection h9 with h9
          obtain ⟨a1, a2, a3, f1, f2⟩ := hat i _ HI2.out
          have c0 := hd.c0
          have hRd : ReadsInt w7.drew .u8 (some ⟨w5.heap.size + 1, 0, none⟩) B.size bl := HBL.out
          have hcv := string_of_reads (P := Try.prog) (src := 27) (dst := 9) (e := 5) (c := capc) Try.underlying27 Try.underlying5 Try.underlying9 hRd
          obtain ⟨R, hR⟩ : ∃ R, R = strOfNums bl := ⟨_, rfl⟩
          rw [← hR] at hcv
          have hK : ({ k with files := F } : Dk).files = F := rfl
          have hset : F.set i (nm, (⟨R, (B.size : Nat)⟩ : FileV)) = upd F nm (fallF ⟨s, (u : Nat)⟩ ⟨0, 0, 0⟩) := by rw [HFR.out, ← hR]; exact set_upd HG1.out.nodup HI2.out _
          have hown9 := hd
          have hlen9 : ({ k with files := F } : Dk).files.length = k.files.length := HFL.out
          have HP : Hush (IsRef ((w7.drew.setCell ⟨gb, i * 3 + 1, none⟩ (.string R)).setCell ⟨gb, i * 3 + 2, none⟩ (.int .i64 (B.size : Nat))) base q (.slice (some ⟨gb, 0, none⟩) k.files.length cap0) { k with files := upd F nm (fallF ⟨s, (u : Nat)⟩ ⟨0, 0, 0⟩) }) := ⟨by
            have h9 := hd
            rw [← hlen9] at h9
            have h8 := h9.set2 (k' := { k with files := upd F nm (fallF ⟨s, (u : Nat)⟩ ⟨0, 0, 0⟩) }) (i := i) (n := nm) (f := ⟨s, (u : Nat)⟩) HI2.out R (B.size : Nat) (by rw [← hset])
            rw [hlen9] at h8
            exact h8⟩
          have HTF : Hush (Touch (fun b => b = q ∨ vblk (.slice (some ⟨gb, 0, none⟩) k.files.length cap0) b) w1 ((w7.drew.setCell ⟨gb, i * 3 + 1, none⟩ (.string R)).setCell ⟨gb, i * 3 + 2, none⟩ (.int .i64 (B.size : Nat)))) := ⟨((HTW.out.trans (Touch.drew _)).trans (Touch.setCell (S := fun b => b = q ∨ vblk (.slice (some ⟨gb, 0, none⟩) k.files.length cap0) b) _ ⟨gb, i * 3 + 1, none⟩ _ (Or.inr rfl))).trans (Touch.setCell _ ⟨gb, i * 3 + 2, none⟩ _ (Or.inr rfl))⟩
          have hi0 : (0 : Int) ≤ (i : Int) := by omega
          have hi2 : (i : Int) < (k.files.length : Int) := by have := (List.getElem?_eq_some_iff.1 HI2.out).1; omega
          have hgq1 : gb ≠ q := HGW.out.2.2.1
          have hgq2 : q ≠ gb := fun e => hgq1 e.symm
          simp only at a1 a2 a3
          clear hd hvb' hat hRd hR hset hown9 hlen9 hK
          go_still_tail 9, (by kernel_rfl)
          change wpList _ _ _ _ _ w7.drew
          clear hcv
          generalize w7.drew = w9 at c0 a1 a2 a3 f1 f2 HP HTF ⊢
          go_wp2
          go_roundw
          case rel => exact ⟨j + 1, by omega, by go_num, by rw [HN2.out]; go_num, ⟨by rw [HN2.out]; exact HP.out, HTF.out⟩⟩
          case measure => simp [intOf]; omega
    · have HFE : Hush (IsRef wr base q (.slice A0 k.files.length cap0) { k with files := (crashGo fs k.files (listed k.files)).1 } ∧ Below base w wr) := ⟨by
        have h := HR.out.1
        rw [List.take_of_length_le (by rw [listed_length]; omega)] at h
        refine ⟨h, (HB.out.mono HBS.out).trans (HR.out.2.below (fun b hb => ?_) HSZ1.out.1)⟩
        rcases hb with e | e
        · have := H.out.ge; omega
        · exact (H.out.own.lt b e).1⟩
      have c5 := HFE.out.1.c5
      have c3 := HFE.out.1.c3
      have c4 := HFE.out.1.c4
      have f5 := HFE.out.1.fr 5
      have f3 := HFE.out.1.fr 3
      have f4 := HFE.out.1.fr 4
      generalize (crashGo fs k.files ((listed k.files).take j)).2 = c at *
      go_wp2
      refine bodyPost_end (v := .tuple #[]) (by simp [results, Try.results41, go_sem]) rfl ⟨rfl, ⟨_, rput_end HFE.out.1⟩, ?_⟩
      exact ((HFE.out.2.setCell (p := ⟨q, 5, none⟩) H.out.ge _).setCell (p := ⟨q, 3, none⟩) H.out.ge _).setCell (p := ⟨q, 4, none⟩) H.out.ge _
end Go.Proofs.Yteilnbnnhocciaa.D

/-! D23 -/
set_option linter.unusedVariables false
set_option linter.unusedSimpArgs false
namespace Go.Proofs.Yteilnbnnhocciaa.D
open Go.RowKit Go.Maps Go.ChangeMaps Go.MapKept Go.WideMaps Go.Sort Go.Proofs.YteilnbnnhocciaaW.PrintWords Go.Proofs.YteilnbnnhocciaaW.PrintLast Go.Proofs.YteilnbnnhocciaaW.PrintMore
structure IsOne (k : Dk) (n : ByteArray) (f : FileV) (room : Int) : Prop where
  files : k.files = [(n, f)]
  room : k.room = room
  fuse : k.fuse = -1
  fault : k.fault = -1
  down : k.down = false
theorem IsOne.find {k : Dk} {n : ByteArray} {f : FileV} {room : Int} (h : IsOne k n f room) : D.find k.files n = some f := by rw [h.files, find_cons, if_pos rfl]
theorem IsOne.stepE {k : Dk} {n : ByteArray} {f : FileV} {room : Int} (h : IsOne k n f room) : D.stepE k 0 = 0 := by unfold D.stepE; rw [h.fuse, h.fault]; rfl
theorem IsOne.stepK {k : Dk} {n : ByteArray} {f : FileV} {room : Int} (h : IsOne k n f room) : IsOne (D.stepK k 0) n f room := by
  unfold D.stepK
  rw [h.fuse, h.fault]
  exact ⟨h.files, h.room, rfl, rfl, h.down⟩
theorem IsOne.thereE {k : Dk} {n : ByteArray} {f : FileV} {room : Int} (h : IsOne k n f room) : D.thereE k n = 0 := by unfold D.thereE; rw [h.find]; rfl
theorem IsOne.upd {k : Dk} {n : ByteArray} {f : FileV} {room : Int} (h : IsOne k n f room) (g : FileV) : D.upd k.files n g = [(n, g)] := by
  unfold D.upd
  rw [h.find, h.files]
  simp
theorem one_create (n : ByteArray) (room : Int) : D.stepE (newDk room) 0 = 0 ∧ IsOne (createK (newDk room) n) n noFile room := by
  have e : D.stepE (newDk room) 0 = 0 := rfl
  refine ⟨e, ?_⟩
  unfold createK
  rw [if_pos e]
  exact ⟨rfl, rfl, rfl, rfl, rfl⟩
theorem IsOne.append {k : Dk} {n : ByteArray} {f : FileV} {room : Int} (h : IsOne k n f room) (s : ByteArray) (hs : (f.s.size : Int) + (s.size : Int) ≤ room) : appendOwn k n s = 0 ∧ IsOne (appendK k n s) n (appendF f s) room := by
  have hu : usedN k.files = f.s.size := by rw [h.files]; simp [usedN]
  have e : appendOwn k n s = 0 := by
    unfold appendOwn
    rw [h.find, hu, h.room, if_pos (by rfl), if_neg (by omega)]
  refine ⟨e, ?_⟩
  unfold appendK
  rw [e, if_pos h.stepE, h.find, h.upd]
  have hk := h.stepK
  exact ⟨rfl, hk.room, hk.fuse, hk.fault, hk.down⟩
theorem IsOne.read {k : Dk} {n : ByteArray} {f : FileV} {room : Int} (h : IsOne k n f room) : readS k n = f.s := by unfold readS; rw [h.find]; rfl
theorem IsOne.crash {k : Dk} {n : ByteArray} {f : FileV} {room : Int} (h : IsOne k n f room) (fs : List FateV) : IsOne (crashK k fs) n (if looseF f = 0 then f else fallF f (fs.getD 0 zeroFate)) room := by
  have hl : listed k.files = [n.data.toList] := by rw [h.files]; simp [listed, names]
  have hn : (⟨n.data.toList.toArray⟩ : ByteArray) = n := by simp
  refine ⟨?_, h.room, rfl, rfl, rfl⟩
  show (crashGo fs k.files (listed k.files)).1 = _
  rw [hl]
  show (crashOne fs (k.files, 0) n.data.toList).1 = _
  unfold crashOne
  simp only [hn, h.find, Option.getD_some]
  split
  · exact h.files
  · exact h.upd _
theorem IsOne.good {k : Dk} {n : ByteArray} {f : FileV} {room : Int} (h : IsOne k n f room) (hn : isName n = true) (hs : f.s.size ≤ 16777216) (hu : 0 ≤ f.sure ∧ f.sure ≤ (f.s.size : Int)) (hr : 0 ≤ room ∧ room ≤ 16777216) : Good k := by
  refine ⟨by rw [h.files]; simp, by rw [h.files]; simp, fun x hx => ?_, by rw [h.files]; simpa [usedN] using hs, fun x hx => ?_, ?_, ?_, by rw [h.room]; exact hr⟩
  · rw [h.files, List.mem_singleton] at hx
    subst hx; exact hn
  · rw [h.files, List.mem_singleton] at hx
    subst hx; exact hu
  · rw [h.fuse]; unfold fuseOk; decide
  · rw [h.fault]; unfold fuseOk; decide
theorem new_good (room : Int) (hr : 0 ≤ room ∧ room ≤ 16777216) : Good (newDk room) :=
  ⟨by simp [newDk], by simp [newDk], (fun x hx => by cases hx), by simp [newDk, usedN], (fun x hx => by cases hx), (show fuseOk (-1) by unfold fuseOk; decide), (show fuseOk (-1) by unfold fuseOk; decide), hr⟩
def nameA : ByteArray := ⟨#[97]⟩
theorem nameA_is : isName nameA = true := by rw [isName_bytes]; decide
theorem nameA_len : nameA.size ≤ maxLen := by unfold maxLen; decide
def hiB : ByteArray := ⟨#[104, 105]⟩
theorem fall_hi : fallF (appendF noFile hiB) (([] : List FateV).getD 0 zeroFate) = ⟨⟨#[]⟩, 0⟩ := by kernel_rfl
set_option maxRecDepth 100000 in
theorem awake_calls (w : World) : Calls Try.prog 7 #[] w fun e w' => e = .returned (.bool true) ∧ Below w.heap.size w w' := by
  go_enter Try.func7, Try.ntmps7
  go_wp2_with fail
  refine (new_yes 100 w (by decide) (by decide)).mono ?_
  rintro e w1 ⟨rfl, hi1, hb1⟩
  obtain ⟨p, hp⟩ : ∃ p, p = w.heap.size + 1 := ⟨_, rfl⟩
  obtain ⟨m, hm⟩ : ∃ m, m = w.heap.size := ⟨_, rfl⟩
  rw [← hp, ← hm] at hi1
  rw [← hp]
  have H1 := Hush.mk hi1
  have HB1 := Hush.mk hb1
  have HO : Hush (∀ x, own2 p m x → w.heap.size ≤ x) := ⟨fun x hx => by rcases hx with e | e <;> omega⟩
  clear hi1 hb1 hp hm
  obtain ⟨e1, k1⟩ := one_create nameA 100
  generalize hk0 : newDk 100 = d0 at H1 e1 k1
  have G0 := Hush.mk (show Good d0 by rw [← hk0]; exact new_good 100 (by decide))
  have HD0 : Hush (d0.down = false ∧ d0.files = []) := ⟨by rw [← hk0]; exact ⟨rfl, rfl⟩⟩
  have K1 := Hush.mk k1
  have E1 := Hush.mk e1
  clear hk0 k1 e1
  go_wp2_with fail
  refine (create_ok H1.out nameA nameA_len HD0.out.1 G0.out.fuse G0.out.fault nameA_is (by rw [HD0.out.2]; rfl) (by rw [HD0.out.2]; decide)).mono ?_
  rw [E1.out]
  rintro e w2 ⟨rfl, hi2, ht2⟩
  have H2 := Hush.mk hi2
  have HB2 : Hush (Below w.heap.size w w2) := ⟨HB1.out.trans (ht2.below HO.out HB1.out.size)⟩
  have G2 := Hush.mk (K1.out.good nameA_is (by decide) (by decide) (by decide))
  obtain ⟨e2, k2⟩ := K1.out.append hiB (by decide)
  have E2 : Hush (stepE (createK d0 nameA) (appendOwn (createK d0 nameA) nameA hiB) = 0) := ⟨by rw [e2]; exact K1.out.stepE⟩
  have K2 := Hush.mk k2
  clear hi2 ht2 e2 k2 E1
  generalize createK d0 nameA = d1 at H2 G2 E2 K1 K2
  go_wp2_with fail
  refine (append_on H2.out G2.out nameA hiB nameA_len (by decide) K1.out.down).mono ?_
  rw [E2.out]
  rintro e w3 ⟨rfl, hi3, ht3⟩
  have H3 := Hush.mk hi3
  have HB3 : Hush (Below w.heap.size w w3) := ⟨HB2.out.trans (ht3.below HO.out HB2.out.size)⟩
  have G3 := Hush.mk (K2.out.good nameA_is (by decide) (by decide) (by decide))
  clear hi3 ht3 E2 K1 H1 H2
  generalize appendK d1 nameA hiB = d2 at H3 G3 K2
  have HR2 : Hush (readS d2 nameA = ⟨#[104, 105]⟩ ∧ thereE d2 nameA = 0) := ⟨by rw [K2.out.read]; kernel_rfl, K2.out.thereE⟩
  go_wp2_with fail
  refine (read_on H3.out nameA nameA_len K2.out.down).mono ?_
  rw [HR2.out.1, HR2.out.2]
  rintro e w4 ⟨rfl, hb4⟩
  have H4 := Hush.mk (H3.out.below hb4)
  have HB4 : Hush (Below w.heap.size w w4) := ⟨HB3.out.trans (hb4.mono HB3.out.size)⟩
  have K3 := Hush.mk (K2.out.crash [])
  clear hb4 H3
  go_wp2_with fail
  refine (crash_on H4.out G3.out none [] 0 (fun h => absurd h (by decide)) (by decide) (fun x hx => by cases hx)).mono ?_
  rintro e w5 ⟨rfl, hi5, ht5⟩
  have H5 := Hush.mk hi5
  have HB5 : Hush (Below w.heap.size w w5) := ⟨HB4.out.trans (ht5.below HO.out HB4.out.size)⟩
  have HR3 : Hush (readS (crashK d2 []) nameA = ⟨#[]⟩ ∧ thereE (crashK d2 []) nameA = 0) := ⟨by rw [K3.out.read, if_neg (by decide +kernel)]; exact congrArg FileV.s fall_hi, K3.out.thereE⟩
  clear hi5 ht5 H4
  generalize crashK d2 [] = d3 at H5 K3 HR3
  go_wp2_with fail
  refine (read_on H5.out nameA nameA_len K3.out.down).mono ?_
  rw [HR3.out.1, HR3.out.2]
  rintro e w6 ⟨rfl, hb6⟩
  have HB6 : Hush (Below w.heap.size w w6) := ⟨HB5.out.trans (hb6.mono HB5.out.size)⟩
  clear hb6
  go_wp2
  go_ret
  exact ⟨rfl, HB6.out⟩
end Go.Proofs.Yteilnbnnhocciaa.D

/-! D45 -/
set_option linter.unusedVariables false
set_option linter.unusedSimpArgs false
namespace Go.Proofs.Yteilnbnnhocciaa.D
open Go.RowKit Go.Maps
theorem IsDisk.perm {w : World} {p m : Nat} {k : Dk} (h : IsDisk w p m k) {L : Files} (hp : k.files.Perm L) : IsDisk w p m { k with files := L } := by
  refine ⟨h.row, ?_⟩
  obtain ⟨D, n, h1, h2, h3⟩ := h.map
  exact ⟨D, n, h1, Nat.le_trans h2 (Nat.le_of_eq hp.length_eq), rep_perm h3 hp⟩
def DActPost (p m : Nat) (k : Dk) (r : Int) (w : World) (e : Ending) (w' : World) : Prop := e = .returned (.int .i64 r) ∧ IsDisk w' p m k ∧ Touch (own2 p m) w w'
theorem up_E {k : Dk} (hd : k.down = false) (own : Int) : stepE' k own = stepE k own ∧ stepK' k own = stepK k own := by unfold stepE' stepK'; rw [hd]; exact ⟨rfl, rfl⟩
theorem off_E {k : Dk} (hd : k.down = true) (own : Int) (F : Files) : stepE' k own = 13 ∧ actK k own F = k := by
  have e : stepE' k own = 13 := by unfold stepE'; rw [hd]; rfl
  refine ⟨e, ?_⟩
  rw [actK_no (by rw [e]; decide)]
  unfold stepK'
  rw [hd]
  rfl
theorem own_ne {k : Dk} {own : Int} (hd : k.down = false) (h : own ≠ 0) (F : Files) : stepE' k own = own ∧ actK k own F = k := by
  have e : stepE' k own = own := by rw [(up_E hd own).1]; unfold stepE; rw [if_pos h]
  refine ⟨e, ?_⟩
  rw [actK_no (by rw [e]; exact h), (up_E hd own).2]
  unfold stepK
  rw [if_pos h]
theorem upd_new {l : Files} {n : ByteArray} {f : FileV} (h : find l n = none) : upd l n f = l ++ [(n, f)] := by unfold upd; rw [h]; rfl
theorem dcreate_on {w : World} {p m : Nat} {k : Dk} (h : IsDisk w p m k) (g : Good k) (n : ByteArray) (hn : n.size ≤ maxLen) :
    Calls Try.prog 10 #[dp p, .string n] w (DActPost p m (actK k (createOwn isName k n) (createF k n)) (stepE' k (createOwn isName k n)) w) := by
  cases hd : k.down with
  | true =>
    rw [(off_E hd _ []).1, (off_E hd _ _).2]
    exact create_off h n hd
  | false =>
    unfold createOwn
    cases hb : isName n with
    | false =>
      rw [if_pos rfl, (own_ne hd (by decide) []).1, (own_ne hd (by decide) _).2]
      exact create_bad h n hn isName named_is hd hb
    | true =>
      rw [if_neg (by decide)]
      cases hf : find k.files n with
      | some f =>
        rw [if_pos (by rfl), (own_ne hd (by decide) []).1, (own_ne hd (by decide) _).2]
        exact create_there h n hn hd hb f hf
      | none =>
        rw [if_neg (by simp)]
        by_cases hl : 200 ≤ k.files.length
        · rw [if_pos hl, (own_ne hd (by decide) []).1, (own_ne hd (by decide) _).2]
          exact create_many h n hn hd hb hf hl
        · rw [if_neg hl]
          have e : actK k 0 (createF k n) = createK k n := by
            unfold actK createK createF
            rw [(up_E hd 0).1, (up_E hd 0).2, upd_new hf]
          rw [e, (up_E hd 0).1]
          exact create_ok h n hn hd g.fuse g.fault hb hf (by omega)
theorem ddelete_on {w : World} {p m : Nat} {k : Dk} (h : IsDisk w p m k) (g : Good k) (n : ByteArray) (hn : n.size ≤ maxLen) :
    Calls Try.prog 11 #[dp p, .string n] w (DActPost p m (actK k (thereE k n) (gone k.files n)) (stepE' k (thereE k n)) w) := by
  cases hd : k.down with
  | true =>
    rw [(off_E hd _ []).1, (off_E hd _ _).2]
    exact delete_off h n hd
  | false =>
    have e : actK k (thereE k n) (gone k.files n) = deleteK k n := by unfold actK deleteK; rw [(up_E hd _).1, (up_E hd _).2]
    rw [e, (up_E hd _).1]
    exact delete_on h n hn hd g.fuse g.fault
theorem dsync_on {w : World} {p m : Nat} {k : Dk} (h : IsDisk w p m k) (g : Good k) (n : ByteArray) (hn : n.size ≤ maxLen) :
    Calls Try.prog 14 #[dp p, .string n] w (DActPost p m (actK k (thereE k n) (syncL k n)) (stepE' k (thereE k n)) w) := by
  cases hd : k.down with
  | true =>
    rw [(off_E hd _ []).1, (off_E hd _ _).2]
    exact sync_off h n hd
  | false =>
    have e : actK k (thereE k n) (syncL k n) = syncK k n := by unfold actK syncK syncL; rw [(up_E hd _).1, (up_E hd _).2]
    rw [e, (up_E hd _).1]
    exact sync_on h n hn hd g.fuse g.fault g.few
theorem dappend_on {w : World} {p m : Nat} {k : Dk} (h : IsDisk w p m k) (g : Good k) (n s : ByteArray) (hn : n.size ≤ maxLen) (hs : s.size ≤ 1000000000) :
    Calls Try.prog 13 #[dp p, .string n, .string s] w (DActPost p m (actK k (appendOwn k n s) (appendL k n s)) (stepE' k (appendOwn k n s)) w) := by
  cases hd : k.down with
  | true =>
    rw [(off_E hd _ []).1, (off_E hd _ _).2]
    exact append_off h n s hd
  | false =>
    have e : actK k (appendOwn k n s) (appendL k n s) = appendK k n s := by unfold actK appendK appendL; rw [(up_E hd _).1, (up_E hd _).2]
    rw [e, (up_E hd _).1]
    exact append_on h g n s hn hs hd
theorem drename_on {w : World} {p m : Nat} {k : Dk} (h : IsDisk w p m k) (g : Good k) (a b : ByteArray) (ha : a.size ≤ maxLen) (hb : b.size ≤ maxLen) :
    Calls Try.prog 21 #[dp p, .string a, .string b] w (DActPost p m (actK k (renameOwn k a b) (renameL k a b)) (stepE' k (renameOwn k a b)) w) := by
  cases hd : k.down with
  | true =>
    rw [(off_E hd _ []).1, (off_E hd _ _).2]
    exact rename_off h a b hd
  | false =>
    refine (rename_on h g a b ha hb hd).mono fun e w' ⟨h1, h2, h3⟩ => ⟨by rw [(up_E hd _).1]; exact h1, ?_, h3⟩
    unfold renameK at h2
    by_cases h0 : stepE k (renameOwn k a b) = 0
    · rw [if_pos h0] at h2
      rw [actK_yes (by rw [(up_E hd _).1]; exact h0), (up_E hd _).2]
      exact h2.perm (upd_perm (gone_nodup g.nodup a) b _)
    · rw [if_neg h0] at h2
      rw [actK_no (by rw [(up_E hd _).1]; exact h0), (up_E hd _).2]
      exact h2
theorem stepK'_good {k : Dk} (g : Good k) (own : Int) : Good (stepK' k own) := by
  unfold stepK'
  split
  · exact g
  · exact g.step own
theorem Good.files {k : Dk} (g : Good k) {F : Files} (h : Good { k with files := F }) (own : Int) : Good { stepK' k own with files := F } := by
  have s := stepK'_good g own
  exact ⟨h.nodup, h.few, h.names, h.used, h.sure, s.fuse, s.fault, s.room⟩
theorem Good.act {k : Dk} (g : Good k) {own : Int} {F : Files} (h : own = 0 → Good { k with files := F }) : Good (actK k own F) := by
  by_cases h0 : stepE' k own = 0
  · rw [actK_yes h0]
    exact g.files (h (step0 h0).1) own
  · rw [actK_no h0]
    exact stepK'_good g own
theorem create_good {k : Dk} (g : Good k) (n : ByteArray) : Good (actK k (createOwn isName k n) (createF k n)) := by
  refine g.act fun h0 => ?_
  unfold createOwn at h0
  cases hb : isName n with
  | false => rw [hb] at h0; simp at h0
  | true =>
    rw [hb] at h0
    simp only [Bool.true_eq_false, if_false] at h0
    cases hf : find k.files n with
    | some f => rw [hf] at h0; simp at h0
    | none =>
      rw [hf] at h0
      simp only [Option.isSome_none, Bool.false_eq_true, if_false] at h0
      by_cases hl : 200 ≤ k.files.length
      · rw [if_pos hl] at h0; simp at h0
      · have h := g.upd n noFile hb (.inr (by omega)) (by rw [upd_new hf, usedN_app]; have := g.used; show usedN k.files + usedN [(n, noFile)] ≤ _; have e : usedN [(n, noFile)] = 0 := rfl; omega) ⟨Int.le_refl _, Int.le_refl _⟩
        rw [upd_new hf] at h
        exact h
theorem delete_good {k : Dk} (g : Good k) (n : ByteArray) (own : Int) : Good (actK k own (gone k.files n)) := g.act fun _ => g.gone n
theorem there0 {k : Dk} {n : ByteArray} (h : thereE k n = 0) : ∃ f, find k.files n = some f := by
  unfold thereE at h
  cases hf : find k.files n with
  | none => rw [hf] at h; simp at h
  | some f => exact ⟨f, rfl⟩
theorem sync_good {k : Dk} (g : Good k) (n : ByteArray) : Good (actK k (thereE k n) (syncL k n)) := by
  refine g.act fun h0 => ?_
  obtain ⟨f, hf⟩ := there0 h0
  have hg := g.find hf
  unfold syncL
  rw [hf]
  refine g.upd n _ hg.1 (.inl (by rw [hf]; rfl)) ?_ ⟨Int.natCast_nonneg _, Int.le_refl _⟩
  have hu := usedN_upd g.nodup n (syncF f)
  rw [hf] at hu
  have := g.used
  simp only [Option.getD_some] at hu ⊢
  have e : (syncF f).s.size = f.s.size := rfl
  omega
theorem append_good {k : Dk} (g : Good k) (n s : ByteArray) : Good (actK k (appendOwn k n s) (appendL k n s)) := by
  refine g.act fun h0 => ?_
  unfold appendOwn at h0
  cases hf : find k.files n with
  | none => rw [hf] at h0; simp at h0
  | some f =>
    rw [hf] at h0
    simp only [Option.isSome_some, if_true] at h0
    have hr : ¬ k.room < (usedN k.files : Int) + (s.size : Int) := fun h => by rw [if_pos h] at h0; simp at h0
    have hg := g.find hf
    unfold appendL
    rw [hf]
    simp only [Option.getD_some]
    refine g.upd n _ hg.1 (.inl (by rw [hf]; rfl)) ?_ ⟨hg.2.2.1, ?_⟩
    · have hu := usedN_upd g.nodup n (appendF f s)
      rw [hf] at hu
      simp only [Option.getD_some] at hu
      have e : (appendF f s).s.size = f.s.size + s.size := ByteArray.size_append
      have := g.room
      omega
    · show f.sure ≤ ((f.s ++ s).size : Int)
      rw [ByteArray.size_append]
      have := hg.2.2.2
      omega
theorem rename_good {k : Dk} (g : Good k) (a b : ByteArray) : Good (actK k (renameOwn k a b) (renameL k a b)) := by
  refine g.act fun h0 => ?_
  unfold renameOwn at h0
  cases hf : find k.files a with
  | none => rw [hf] at h0; simp at h0
  | some f =>
    rw [hf] at h0
    simp only [Option.isSome_some, if_true] at h0
    cases hb : isName b with
    | false => rw [hb] at h0; simp at h0
    | true =>
      have hg := g.find hf
      have g1 := (g.gone a).gone b
      have hn : find (gone (gone k.files a) b) b = none := by rw [find_gone, if_pos rfl]
      have hu1 := usedN_gone g.nodup a
      have hu2 := usedN_gone (gone_nodup g.nodup a) b
      rw [hf] at hu1
      simp only [Option.getD_some] at hu1
      have hl1 := gone_length g.nodup a
      rw [hf] at hl1
      simp only [Option.isSome_some, if_true] at hl1
      have hl2 : (gone (gone k.files a) b).length ≤ (gone k.files a).length := List.length_filter_le _ _
      have hfew := g.few
      have hus := g.used
      have h := g1.upd b f hb (.inr (show (gone (gone k.files a) b).length < 200 by omega)) (by
        rw [upd_new hn, usedN_app]
        have e : usedN [(b, f)] = f.s.size := by simp [usedN]
        show usedN (gone (gone k.files a) b) + _ ≤ _
        omega) hg.2.2
      have e : renameL k a b = upd (gone (gone k.files a) b) b f := by unfold renameL; rw [hf, upd_new hn]; rfl
      rw [e]
      exact h
theorem crash_good {k : Dk} (g : Good k) (fs : List FateV) : Good (crashK k fs) := by
  have h := (crashGo_part fs g k.files.length (Nat.le_refl _)).1
  rw [List.take_of_length_le (by rw [listed_length]; exact Nat.le_refl _)] at h
  exact ⟨h.nodup, h.few, h.names, h.used, h.sure, (show fuseOk (-1) by unfold fuseOk; decide), (show fuseOk (-1) by unfold fuseOk; decide), g.room⟩
end Go.Proofs.Yteilnbnnhocciaa.D

/-! D46 -/
set_option linter.unusedVariables false
set_option linter.unusedSimpArgs false
namespace Go.Proofs.Yteilnbnnhocciaa.D
open Go.RowKit Go.Maps Go.ChangeMaps Go.MapKept Go.WideMaps Go.Sort Go.Proofs.YteilnbnnhocciaaW.PrintWords Go.Proofs.YteilnbnnhocciaaW.PrintLast Go.Proofs.YteilnbnnhocciaaW.PrintMore
attribute [local go_sem] max2_int min2_int max_two min_two max_three min_three max_four min_four
structure Pair (w : World) (base p m q : Nat) (k : Dk) : Prop where
  disk : IsDisk w p m k
  ref : ∃ v, IsRef w base q v k
  good : Good k
  low : p < base ∧ m < base
structure ActV where
  do_ : Int
  a : ByteArray
  b : ByteArray
  data : ByteArray
  n : Int
  A : Option Addr
  fs : List FateV
  cf : Nat
def actCells (x : ActV) : Array Value := #[.int .i64 x.do_, .string x.a, .string x.b, .string x.data, .int .i64 x.n, .slice x.A x.fs.length x.cf]
def actVal (x : ActV) : Value := .agg (actCells x)
def FatesLow (w : World) (base p m : Nat) (A : Option Addr) (fs : List FateV) : Prop :=
  0 < fs.length → ∃ fb fo, A = some ⟨fb, fo, none⟩ ∧ fb ≠ p ∧ fb ≠ m ∧ fb < base ∧ ∀ j, j < fs.length → w.cell? ⟨fb, fo + j * 3, none⟩ = some (.int .i64 (fs.getD j zeroFate).keep) ∧ w.cell? ⟨fb, fo + j * 3 + 1, none⟩ = some (.int .i64 (fs.getD j zeroFate).at_) ∧ w.cell? ⟨fb, fo + j * 3 + 2, none⟩ = some (.int .u8 ((fs.getD j zeroFate).turn : Nat))
structure ActOk (w : World) (base p m : Nat) (x : ActV) : Prop where
  a : x.a.size ≤ 1000000
  b : x.b.size ≤ 1000000
  data : x.data.size ≤ 1000000
  fates : FatesLow w base p m x.A x.fs
  most : x.fs.length ≤ 1000000
  turn : ∀ f ∈ x.fs, f.turn < 256
def zone (base p m : Nat) : Nat → Prop := fun b => b = p ∨ b = m ∨ base ≤ b
def DoPost (base p m q : Nat) (w : World) (e : Ending) (w' : World) : Prop := e = .returned (.bool true) ∧ (∃ k, Pair w' base p m q k) ∧ Touch (zone base p m) w w'
theorem zone_own {base p m : Nat} {w w' : World} (h : Touch (own2 p m) w w') : Touch (zone base p m) w w' := h.mono fun b e => e.elim .inl (fun e => .inr (.inl e))
theorem zone_base {base p m : Nat} {w w' : World} (h : Below base w w') : Touch (zone base p m) w w' := ⟨h.os, h.tape, h.output, h.size, fun i hi hs => h.block i (Nat.lt_of_not_le fun e => hs (.inr (.inr e)))⟩
theorem zone_new {base p m : Nat} {w w' : World} (h : Below w.heap.size w w') : Touch (zone base p m) w w' := Touch.of_below h
theorem IsDisk.base {w w' : World} {base p m : Nat} {k : Dk} (h : IsDisk w p m k) (b : Below base w w') (hl : p < base ∧ m < base) : IsDisk w' p m k :=
  h.keep (S := fun x => base ≤ x) ⟨b.os, b.tape, b.output, b.size, fun i hi hs => b.block i (Nat.lt_of_not_le hs)⟩ (by omega) (by omega)
theorem IsRef.own2 {w w' : World} {base p m q : Nat} {v : Value} {k : Dk} (h : IsRef w base q v k) (t : Touch (own2 p m) w w') (hl : p < base ∧ m < base) : IsRef w' base q v k :=
  h.keep t (by have := h.ge; rintro (e | e) <;> omega) (fun g hg e => by have := (h.own.lt g hg).1; rcases e with e | e <;> omega)
theorem FatesLow.at1 {w : World} {base p m : Nat} {A : Option Addr} {fs : List FateV} (h : FatesLow w base p m A fs) : FatesAt w p m A fs := fun h0 => by
  obtain ⟨fb, fo, e, h1, h2, _, hc⟩ := h h0
  exact ⟨fb, fo, e, h1, h2, hc⟩
theorem FatesLow.at2 {w : World} {base p m q g : Nat} {A : Option Addr} {fs : List FateV} (h : FatesLow w base p m A fs) (hq : base ≤ q) (hg : base ≤ g) : FatesAt w q g A fs := fun h0 => by
  obtain ⟨fb, fo, e, h1, h2, hb, hc⟩ := h h0
  exact ⟨fb, fo, e, by omega, by omega, hc⟩
theorem FatesLow.touch {w w' : World} {base p m : Nat} {A : Option Addr} {fs : List FateV} (h : FatesLow w base p m A fs) (t : Touch (zone base p m) w w') : FatesLow w' base p m A fs := fun h0 => by
  obtain ⟨fb, fo, e, h1, h2, hb, hc⟩ := h h0
  have hn : ¬ zone base p m fb := fun e => by rcases e with e | e | e <;> omega
  exact ⟨fb, fo, e, h1, h2, hb, fun j hj => ⟨t.cell hn (hc j hj).1, t.cell hn (hc j hj).2.1, t.cell hn (hc j hj).2.2⟩⟩
theorem act_cells {w : World} {g t : Nat} {x : ActV} (h : w.heap[g]? = some (.cells (actCells x) t (0, 0))) : w.cell? ⟨g, 0, none⟩ = some (.int .i64 x.do_) ∧ w.cell? ⟨g, 1, none⟩ = some (.string x.a) ∧ w.cell? ⟨g, 2, none⟩ = some (.string x.b) ∧ w.cell? ⟨g, 3, none⟩ = some (.string x.data) ∧ w.cell? ⟨g, 4, none⟩ = some (.int .i64 x.n) ∧ w.cell? ⟨g, 5, none⟩ = some (.slice x.A x.fs.length x.cf) := by simp [World.cell?, h, actCells]
set_option maxRecDepth 100000 in
set_option maxHeartbeats 2000000 in
theorem do_1 {w : World} {base p m q : Nat} {k : Dk} (h : Pair w base p m q k) (x : ActV) (hx : ActOk w base p m x) (hj : x.do_.tmod 10 = 1 ∨ x.do_.tmod 10 = -1) : Calls Try.prog 27 #[dp p, dp q, actVal x] w (DoPost base p m q w) := by
  have hbx := World.alloc_heap_new w (.cells (actCells x) 48)
  obtain ⟨v, hv⟩ := h.ref
  have HD := Hush.mk (h.disk.alloc (.cells (actCells x) 48))
  have HR := Hush.mk (hv.alloc (.cells (actCells x) 48))
  have HG := Hush.mk h.good
  have HL := Hush.mk h.low
  have HX := Hush.mk hx
  have HBX := Hush.mk hbx
  have HSZ : Hush (base ≤ w.heap.size) := ⟨Nat.le_trans hv.ge (Nat.le_of_lt hv.lt)⟩
  have HT0 : Hush (Touch (zone base p m) w (w.alloc (.cells (actCells x) 48))) := ⟨Touch.alloc _ _⟩
  obtain ⟨do_, a, b, data, n, A, fs, cf⟩ := x
  obtain ⟨x0, x1, x2, x3, x4, x5⟩ := act_cells (w := w.alloc (.cells (actCells ⟨do_, a, b, data, n, A, fs, cf⟩) 48)) hbx
  simp only [actVal, actCells] at x0 x1 x2 x3 x4 x5 hj HD HR HBX HT0 ⊢
  clear h hv hx hbx
  rcases hj with hj | hj
  all_goals
    go_enter Try.func27, Try.ntmps27
    go_wp2_with fail
    obtain ⟨nb, hnb⟩ : ∃ nb, nb = w.heap.size := ⟨_, rfl⟩
    have HNB : Hush (base ≤ nb ∧ ¬ own2 p m nb) := ⟨by have := HSZ.out; have := HL.out; exact ⟨by omega, by rintro (e | e) <;> omega⟩⟩
    rw [← hnb] at HBX x0 x1 x2 x3 x4 x5 ⊢
    clear hnb
    generalize w.alloc (.cells #[.int .i64 do_, .string a, .string b, .string data, .int .i64 n, .slice A fs.length cf] 48) = w0 at HD HR HBX HT0 x0 x1 x2 x3 x4 x5 ⊢
    have y1 : w0.drew.cell? ⟨nb, 1, none⟩ = some (.string a) := x1
    have y2 : w0.drew.cell? ⟨nb, 2, none⟩ = some (.string b) := x2
    have y3 : w0.drew.cell? ⟨nb, 3, none⟩ = some (.string data) := x3
    go_region_with ((first | (go_at_call 10; refine (dcreate_on HD.out.drew HG.out a (by have := HX.out.a; unfold maxLen; simp only at this; omega)).mono ?_; rintro e w1 ⟨rfl, hd1, ht1⟩; have z1 : w1.cell? ⟨nb, 1, none⟩ = _ := ht1.cell HNB.out.2 y1; have HD1 := Hush.mk hd1; have HT1 := Hush.mk ht1; clear hd1 ht1) | (go_at_call 36; refine (rcreate_on (HR.out.drew.own2 HT1.out HL.out) HG.out a HX.out.a).mono ?_; rintro e w2 ⟨rfl, hr2, hb2⟩; have HR2 := Hush.mk hr2; have HB2 := Hush.mk hb2; clear hr2 hb2)))
    all_goals
      have HP : Hush ((∃ k, Pair w2 base p m q k) ∧ Touch (zone base p m) w w2) := ⟨⟨_, HD1.out.base HB2.out HL.out, HR2.out, create_good HG.out a, HL.out⟩, ((HT0.out.trans (Touch.drew _)).trans (zone_own HT1.out)).trans (zone_base HB2.out)⟩
      clear x0 x1 x2 x3 x4 x5 y1 y2 y3 hj
      go_wp2
      go_ret
      exact ⟨rfl, HP.out⟩
end Go.Proofs.Yteilnbnnhocciaa.D
