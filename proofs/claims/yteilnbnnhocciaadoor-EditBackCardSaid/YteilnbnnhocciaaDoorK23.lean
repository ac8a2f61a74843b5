-- Written by a turned copy of the printer of the kit (wip/tools/patch_print.py).
import Derived.Test.YteilnbnnhocciaaDoorK0
import Derived.Test.YteilnbnnhocciaaDoorK6
import Derived.Test.YteilnbnnhocciaaDoorK11
import Derived.Test.YteilnbnnhocciaaDoorK14
import Derived.Test.YteilnbnnhocciaaDoorK16
import Derived.Test.YteilnbnnhocciaaDoorK17
import Derived.Test.YteilnbnnhocciaaDoorK18
import Derived.Test.YteilnbnnhocciaaDoorK20
import Derived.Test.YteilnbnnhocciaaDoorK22
namespace Go.Proofs.YteilnbnnhocciaaDoor.K
open Go.RowKit Go.Proofs.YteilnbnnhocciaaDoorW.PrintWords Go.Proofs.YteilnbnnhocciaaDoorW.PrintLast Go.Proofs.YteilnbnnhocciaaDoorW.PrintMore Go.Proofs.YteilnbnnhocciaaDoorM
attribute [local go_sem] max2_int min2_int max_two min_two max_three min_three max_four min_four   -- for this text's walks alone
set_option linter.unusedVariables false
set_option linter.unusedSimpArgs false

/-! ### edit_Parse: function 18 -/
-- EXT rounds=0 making=1 needs=55,56,57,58,59,60,61,20
def edit_cells107 (a : S107) : List Value := [.int .i64 a.f0, .int .u64 a.f1.f0, .int .u64 a.f1.f1, .int .u64 a.f1.f2, .string a.f1.f3, .string a.f1.f4]
def edit_cells111 (a : S111) : List Value := [.int .i64 a.f0, .int .u64 a.f1]
/-- A file that stands next, on its level. -/
def edit_Parse.come (s : ByteArray) (p e : Int) : Option (S107 × ByteArray × Int × Int) :=
  (edit_levelOf.f s p e).bind fun t0 => (varint_Reader_Num.f t0.2.1 t0.2.2.1 t0.2.2.2).bind fun t1 => (varint_Reader_Num.f t1.2.1 t1.2.2.1 t1.2.2.2).bind fun t2 => (varint_Reader_Num.f t2.2.1 t2.2.2.1 t2.2.2.2).bind fun t3 =>
    (varint_Reader_Text.f t3.2.1 t3.2.2.1 t3.2.2.2 200).bind fun t4 => (varint_Reader_Text.f t4.2.1 t4.2.2.1 t4.2.2.2 200).bind fun t5 => some (⟨t0.1, ⟨t1.1, t2.1, t3.1, t4.1, t5.1⟩⟩, t5.2.1, t5.2.2.1, t5.2.2.2)
def edit_Parse.gone (s : ByteArray) (p e : Int) : Option (S111 × ByteArray × Int × Int) :=
  (edit_levelOf.f s p e).bind fun t0 => (varint_Reader_Num.f t0.2.1 t0.2.2.1 t0.2.2.2).bind fun t1 => some (⟨t0.1, t1.1⟩, t1.2.1, t1.2.2.1, t1.2.2.2)
def edit_Parse.comes : Nat → ByteArray → Int → Int → List S107 → Option (List S107 × ByteArray × Int × Int)
  | 0, s, p, e, acc => some (acc, s, p, e)
  | m + 1, s, p, e, acc => if e = 0 then (edit_Parse.come s p e).bind fun t => if acc.length < 2199023255552 then edit_Parse.comes m t.2.1 t.2.2.1 t.2.2.2 (acc ++ [t.1]) else none else some (acc, s, p, e)
def edit_Parse.gones : Nat → ByteArray → Int → Int → List S111 → Option (List S111 × ByteArray × Int × Int)
  | 0, s, p, e, acc => some (acc, s, p, e)
  | m + 1, s, p, e, acc => if e = 0 then (edit_Parse.gone s p e).bind fun t => if acc.length < 8796093022208 then edit_Parse.gones m t.2.1 t.2.2.1 t.2.2.2 (acc ++ [t.1]) else none else some (acc, s, p, e)
def edit_Parse.fin (lg nx sq : Int) (c : List S107) (g : List S111) (err : Int) : Int × Int × Int × List S107 × List S111 × Int :=
  if err = 0 then (if edit_Edit_Check.val c g = 0 then (lg, nx, sq, c, g, 0) else (0, 0, 0, [], [], edit_Edit_Check.val c g)) else (0, 0, 0, [], [], err)
def edit_Parse.f (a0 : ByteArray) : Option (Int × Int × Int × (List (S107)) × (List (S111)) × Int) :=
  (varint_Reader_Num.f a0 0 0).bind fun t1 => (varint_Reader_Num.f t1.2.1 t1.2.2.1 t1.2.2.2).bind fun t2 => (varint_Reader_Num.f t2.2.1 t2.2.2.1 t2.2.2.2).bind fun t3 =>
    (edit_count.f t3.2.1 t3.2.2.1 t3.2.2.2).bind fun n => if 0 ≤ n.1 ∧ n.1 ≤ 18446744073709551615 then (edit_Parse.comes n.1.toNat n.2.1 n.2.2.1 n.2.2.2 []).bind fun c =>
      (edit_count.f c.2.1 c.2.2.1 c.2.2.2).bind fun n2 => if 0 ≤ n2.1 ∧ n2.1 ≤ 18446744073709551615 then (edit_Parse.gones n2.1.toNat n2.2.1 n2.2.2.1 n2.2.2.2 []).bind fun g =>
        (varint_Reader_End.f g.2.1 g.2.2.1 g.2.2.2).bind fun z => some (edit_Parse.fin t1.1 t2.1 t3.1 c.1 g.1 z.1) else none else none
theorem own_type {w : World} {base e size n : Nat} {v : Value} {xs : List Value} (h : w.ownsRow base e size v n xs) {k : Nat} (hk : v.ownBlock = some k) : ∃ cs, w.heap[k]? = some (.cells cs e (0, 0)) := by
  rcases h.2 with ⟨rfl, _⟩ | ⟨g, cap, cur, rfl, _, hg, _⟩
  · simp [Value.ownBlock] at hk
  · simp [Value.ownBlock] at hk
    subst hk
    exact ⟨cur, hg⟩
theorem heap_lt {w : World} {b : Nat} {o : Obj} (h : w.heap[b]? = some o) : b < w.heap.size := (Array.getElem?_eq_some_iff.1 h).1
theorem blk_ne {w : World} {a b : Nat} {cs cs' : Array Value} {t t' : TypeId} {fr fr' : Nat × Nat} (h : w.heap[a]? = some (.cells cs t fr)) (h' : w.heap[b]? = some (.cells cs' t' fr')) (hne : t ≠ t') : a ≠ b := by
  rintro rfl
  rw [h] at h'
  injection h' with h'
  injection h' with _ ht _
  exact hne ht
theorem own_kept_keep {w W : World} {g base e size n t : Nat} {v : Value} {xs : List Value} {cs : Array Value} (h : w.ownsRow base e size v n xs) (hk : KeepBut w W g none) (hg : w.heap[g]? = some (.cells cs t (0, 0))) (hne : e ≠ t) : W.ownsRow base e size v n xs := by
  refine own_move h fun k hk' => ?_
  obtain ⟨cs', hc⟩ := own_type h hk'
  exact hk.2 k (heap_lt hc) (blk_ne hc hg hne) (by simp)
theorem blk_kept_keep {w W : World} {g b t t' : Nat} {cs cs' : Array Value} (h : w.heap[b]? = some (.cells cs t (0, 0))) (hk : KeepBut w W g none) (hg : w.heap[g]? = some (.cells cs' t' (0, 0))) (hne : t ≠ t') : W.heap[b]? = some (.cells cs t (0, 0)) :=
  (hk.2 b (heap_lt h) (blk_ne h hg hne) (by simp)).trans h
def edit_zero26 : Array Value := #[.int .u64 0, .int .u64 0, .int .u64 0, .slice none 0 0, .slice none 0 0]
structure edit_Parse.St (w : World) (g b2 b5 : Nat) (s : ByteArray) (p e : Int) (C5 : Array Value) (v3 : Value) (l3 : List S107) (v4 : Value) (l4 : List S111) (W : World) : Prop where
  rd : IsS171 w W g s p e
  h2 : W.heap[b2]? = some (.cells edit_zero26 26 (0, 0))
  h5 : W.heap[b5]? = some (.cells C5 26 (0, 0))
  o3 : W.ownsRow w.heap.size 107 6 v3 l3.length (l3.flatMap edit_cells107)
  o4 : W.ownsRow w.heap.size 111 2 v4 l4.length (l4.flatMap edit_cells111)
  bel : Below w.heap.size w W
  ge2 : w.heap.size ≤ b2
  ge5 : w.heap.size ≤ b5
  ne25 : b2 ≠ b5
section
variable {w W W' : World} {g b2 b5 : Nat} {s s' : ByteArray} {p e p' e' : Int} {C5 : Array Value} {v3 v4 : Value} {l3 : List S107} {l4 : List S111}
theorem edit_Parse.St.call (h : edit_Parse.St w g b2 b5 s p e C5 v3 l3 v4 l4 W) (hi : IsS171 w W' g s' p' e') (hb : Below w.heap.size w W') (hk : KeepBut W W' g none) : edit_Parse.St w g b2 b5 s' p' e' C5 v3 l3 v4 l4 W' :=
  ⟨hi, blk_kept_keep h.h2 hk h.rd.1 (by decide), blk_kept_keep h.h5 hk h.rd.1 (by decide), own_kept_keep h.o3 hk h.rd.1 (by decide), own_kept_keep h.o4 hk h.rd.1 (by decide), hb, h.ge2, h.ge5, h.ne25⟩
theorem edit_Parse.St.alloc (h : edit_Parse.St w g b2 b5 s p e C5 v3 l3 v4 l4 W) (o : Obj) : edit_Parse.St w g b2 b5 s p e C5 v3 l3 v4 l4 (W.alloc o) :=
  ⟨h.rd.alloc o, blk_alloc h.h2 o, blk_alloc h.h5 o, h.o3.alloc o, h.o4.alloc o, below_alloc h.bel o, h.ge2, h.ge5, h.ne25⟩
theorem edit_Parse.St.drew (h : edit_Parse.St w g b2 b5 s p e C5 v3 l3 v4 l4 W) : edit_Parse.St w g b2 b5 s p e C5 v3 l3 v4 l4 W.drew :=
  ⟨h.rd.drew, h.h2, h.h5, h.o3.drew, h.o4.drew, below_drew1 h.bel, h.ge2, h.ge5, h.ne25⟩
theorem edit_Parse.St.far (h : edit_Parse.St w g b2 b5 s p e C5 v3 l3 v4 l4 W) {b i : Nat} (u : Value) (hb : w.heap.size ≤ b) (hg : g ≠ b) (h2 : b2 ≠ b) (h5 : b5 ≠ b) (h3 : v3.ownBlock ≠ some b) (h4 : v4.ownBlock ≠ some b) : edit_Parse.St w g b2 b5 s p e C5 v3 l3 v4 l4 (W.setCell ⟨b, i, none⟩ u) :=
  ⟨h.rd.far hg u, (Below.heap_setCell W _ u b2 h2).trans h.h2, (Below.heap_setCell W _ u b5 h5).trans h.h5, own_move h.o3 (fun k hk => Below.heap_setCell W _ u k (fun e => h3 (by rw [hk]; exact congrArg some e))), own_move h.o4 (fun k hk => Below.heap_setCell W _ u k (fun e => h4 (by rw [hk]; exact congrArg some e))), below_set h.bel hb, h.ge2, h.ge5, h.ne25⟩
theorem edit_Parse.St.set5 (h : edit_Parse.St w g b2 b5 s p e C5 v3 l3 v4 l4 W) (i : Nat) (u : Value) : edit_Parse.St w g b2 b5 s p e (C5.setIfInBounds i u) v3 l3 v4 l4 (W.setCell ⟨b5, i, none⟩ u) := by
  have hg : g ≠ b5 := blk_ne h.rd.1 h.h5 (by decide)
  refine ⟨h.rd.far hg u, (Below.heap_setCell W _ u b2 h.ne25).trans h.h2, ?_, own_move h.o3 (fun k hk => Below.heap_setCell W _ u k ?_), own_move h.o4 (fun k hk => Below.heap_setCell W _ u k ?_), below_set h.bel h.ge5, h.ge2, h.ge5, h.ne25⟩
  · simp [World.setCell, Array.getElem?_modify, h.h5]
  · obtain ⟨cs, hc⟩ := own_type h.o3 hk
    exact blk_ne hc h.h5 (by decide)
  · obtain ⟨cs, hc⟩ := own_type h.o4 hk
    exact blk_ne hc h.h5 (by decide)
theorem edit_Parse.St.push3 (h : edit_Parse.St w g b2 b5 s p e C5 v3 l3 v4 l4 W) {a : S107} {v' : Value} (ho : W'.ownsRow w.heap.size 107 6 v' (l3.length + 1) (l3.flatMap edit_cells107 ++ edit_cells107 a)) (hg : W.grownBy W' v3.ownBlock) : edit_Parse.St w g b2 b5 s p e C5 v' (l3 ++ [a]) v4 l4 W' := by
  have hn : ∀ {b t : Nat} {cs : Array Value}, W.heap[b]? = some (.cells cs t (0, 0)) → t ≠ 107 → some b ≠ v3.ownBlock := by
    intro b t cs hb ht e
    obtain ⟨cs', hc⟩ := own_type h.o3 e.symm
    exact blk_ne hb hc ht rfl
  have hb : ∀ {b t : Nat} {cs : Array Value}, W.heap[b]? = some (.cells cs t (0, 0)) → t ≠ 107 → W'.heap[b]? = some (.cells cs t (0, 0)) := fun hb ht => (hg.block _ (heap_lt hb) (hn hb ht)).trans hb
  refine ⟨⟨hb h.rd.1 (by decide), h.rd.2⟩, hb h.h2 (by decide), hb h.h5 (by decide), by simpa using ho, own_move h.o4 (fun k hk => ?_), h.bel.grown hg h.bel.size (fun k hk => (h.o3.lt k hk).1), h.ge2, h.ge5, h.ne25⟩
  obtain ⟨cs, hc⟩ := own_type h.o4 hk
  exact hg.block _ (heap_lt hc) (hn hc (by decide))
theorem edit_Parse.St.push4 (h : edit_Parse.St w g b2 b5 s p e C5 v3 l3 v4 l4 W) {a : S111} {v' : Value} (ho : W'.ownsRow w.heap.size 111 2 v' (l4.length + 1) (l4.flatMap edit_cells111 ++ edit_cells111 a)) (hg : W.grownBy W' v4.ownBlock) : edit_Parse.St w g b2 b5 s p e C5 v3 l3 v' (l4 ++ [a]) W' := by
  have hn : ∀ {b t : Nat} {cs : Array Value}, W.heap[b]? = some (.cells cs t (0, 0)) → t ≠ 111 → some b ≠ v4.ownBlock := by
    intro b t cs hb ht e
    obtain ⟨cs', hc⟩ := own_type h.o4 e.symm
    exact blk_ne hb hc ht rfl
  have hb : ∀ {b t : Nat} {cs : Array Value}, W.heap[b]? = some (.cells cs t (0, 0)) → t ≠ 111 → W'.heap[b]? = some (.cells cs t (0, 0)) := fun hb ht => (hg.block _ (heap_lt hb) (hn hb ht)).trans hb
  refine ⟨⟨hb h.rd.1 (by decide), h.rd.2⟩, hb h.h2 (by decide), hb h.h5 (by decide), own_move h.o3 (fun k hk => ?_), by simpa using ho, h.bel.grown hg h.bel.size (fun k hk => (h.o4.lt k hk).1), h.ge2, h.ge5, h.ne25⟩
  obtain ⟨cs, hc⟩ := own_type h.o3 hk
  exact hg.block _ (heap_lt hc) (hn hc (by decide))
end
theorem cells_new (w : World) (cs : List Value) (e : TypeId) : ∀ j u, cs[j]? = some u → (w.alloc (.cells cs.toArray e)).cell? ((⟨w.heap.size, 0, none⟩ : Addr).add j) = some u := by
  intro j u hj
  have : (⟨w.heap.size, 0, none⟩ : Addr).add j = ⟨w.heap.size, j, none⟩ := by unfold Addr.add; split <;> simp_all
  rw [this, World.cell?_alloc_at _ _ _ _ rfl]
  simpa using hj
theorem R_of_own {α : Type} {d : Kd α} {e base : Nat} {w : World} {v : Value} {l : List α} (f : α → List Value) (hf : ∀ x, (f x).length = d.sz) (hM : ∀ ok x, d.M w base ok x (f x)) (h : w.ownsRow base e d.sz v l.length (l.flatMap f)) : Kd.R d e w base (fun _ => True) v l := by
  refine ⟨fun _ _ => trivial, _, h, ?_⟩
  clear h
  have : ∀ (ok : Nat → Prop), Reps (d.M w base ok) d.sz l (l.flatMap f) := by
    intro ok
    generalize hm : l.length = m
    induction m generalizing l with
    | zero => obtain rfl := List.eq_nil_of_length_eq_zero hm; exact Reps.none _ _
    | succ m ih =>
      obtain ⟨l', x, rfl⟩ : ∃ l' x, l = l' ++ [x] := by
        refine ⟨l.dropLast, l.getLast (by intro h; simp [h] at hm), ?_⟩
        exact (List.dropLast_concat_getLast _).symm
      have hl : l'.length = m := by simpa using hm
      simpa using Reps.snoc (ih hl) (hM ok x) (hf x)
  exact this _
theorem edit_Parse.comes_stop {m : Nat} {s : ByteArray} {p e : Int} {l : List S107} {C : List S107 × ByteArray × Int × Int} (h : edit_Parse.comes m s p e l = some C) (hz : m = 0 ∨ e ≠ 0) : (l, s, p, e) = C := by
  cases m with
  | zero => exact Option.some.inj h
  | succ m =>
    rcases hz with hz | hz
    · cases hz
    · rw [edit_Parse.comes, if_neg hz] at h; exact Option.some.inj h
theorem edit_Parse.gones_stop {m : Nat} {s : ByteArray} {p e : Int} {l : List S111} {C : List S111 × ByteArray × Int × Int} (h : edit_Parse.gones m s p e l = some C) (hz : m = 0 ∨ e ≠ 0) : (l, s, p, e) = C := by
  cases m with
  | zero => exact Option.some.inj h
  | succ m =>
    rcases hz with hz | hz
    · cases hz
    · rw [edit_Parse.gones, if_neg hz] at h; exact Option.some.inj h
structure edit_Parse.Come (s : ByteArray) (p : Int) (a : S107) (s1 s2 s3 s4 s5 s6 : ByteArray) (p1 p2 p3 p4 p5 p6 e1 e2 e3 e4 e5 e6 : Int) : Prop where
  c1 : edit_levelOf.f s p 0 = some (a.f0, s1, p1, e1)
  c2 : varint_Reader_Num.f s1 p1 e1 = some (a.f1.f0, s2, p2, e2)
  c3 : varint_Reader_Num.f s2 p2 e2 = some (a.f1.f1, s3, p3, e3)
  c4 : varint_Reader_Num.f s3 p3 e3 = some (a.f1.f2, s4, p4, e4)
  c5 : varint_Reader_Text.f s4 p4 e4 200 = some (a.f1.f3, s5, p5, e5)
  c6 : varint_Reader_Text.f s5 p5 e5 200 = some (a.f1.f4, s6, p6, e6)
theorem edit_Parse.comes_go {m : Nat} {s : ByteArray} {p : Int} {l : List S107} {C : List S107 × ByteArray × Int × Int} (h : edit_Parse.comes (m + 1) s p 0 l = some C) :
    l.length < 2199023255552 ∧ ∃ a s1 s2 s3 s4 s5 s6 p1 p2 p3 p4 p5 p6 e1 e2 e3 e4 e5 e6, edit_Parse.Come s p a s1 s2 s3 s4 s5 s6 p1 p2 p3 p4 p5 p6 e1 e2 e3 e4 e5 e6 ∧ edit_Parse.comes m s6 p6 e6 (l ++ [a]) = some C := by
  rw [edit_Parse.comes, if_pos rfl] at h
  obtain ⟨⟨a, s6, p6, e6⟩, hc, h⟩ := Option.bind_eq_some_iff.mp h
  dsimp only at h
  by_cases hl : l.length < 2199023255552
  · rw [if_pos hl] at h
    refine ⟨hl, ?_⟩
    obtain ⟨⟨a0, s1, p1, e1⟩, h1, hc⟩ := Option.bind_eq_some_iff.mp hc
    obtain ⟨⟨a1, s2, p2, e2⟩, h2, hc⟩ := Option.bind_eq_some_iff.mp hc
    obtain ⟨⟨a2, s3, p3, e3⟩, h3, hc⟩ := Option.bind_eq_some_iff.mp hc
    obtain ⟨⟨a3, s4, p4, e4⟩, h4, hc⟩ := Option.bind_eq_some_iff.mp hc
    obtain ⟨⟨a4, s5, p5, e5⟩, h5, hc⟩ := Option.bind_eq_some_iff.mp hc
    obtain ⟨⟨a5, s7, p7, e7⟩, h6, hc⟩ := Option.bind_eq_some_iff.mp hc
    dsimp only at h1 h2 h3 h4 h5 h6 hc
    simp only [Option.some.injEq, Prod.mk.injEq] at hc
    obtain ⟨rfl, rfl, rfl, rfl⟩ := hc
    exact ⟨_, _, _, _, _, _, _, _, _, _, _, _, _, _, _, _, _, _, _, ⟨h1, h2, h3, h4, h5, h6⟩, h⟩
  · rw [if_neg hl] at h; cases h
theorem edit_Parse.gones_go {m : Nat} {s : ByteArray} {p : Int} {l : List S111} {C : List S111 × ByteArray × Int × Int} (h : edit_Parse.gones (m + 1) s p 0 l = some C) :
    l.length < 8796093022208 ∧ ∃ a s1 s2 p1 p2 e1 e2, (edit_levelOf.f s p 0 = some (a.f0, s1, p1, e1) ∧ varint_Reader_Num.f s1 p1 e1 = some (a.f1, s2, p2, e2)) ∧ edit_Parse.gones m s2 p2 e2 (l ++ [a]) = some C := by
  rw [edit_Parse.gones, if_pos rfl] at h
  obtain ⟨⟨a, s6, p6, e6⟩, hc, h⟩ := Option.bind_eq_some_iff.mp h
  dsimp only at h
  by_cases hl : l.length < 8796093022208
  · rw [if_pos hl] at h
    refine ⟨hl, ?_⟩
    obtain ⟨⟨a0, s1, p1, e1⟩, h1, hc⟩ := Option.bind_eq_some_iff.mp hc
    obtain ⟨⟨a1, s2, p2, e2⟩, h2, hc⟩ := Option.bind_eq_some_iff.mp hc
    dsimp only at h1 h2 hc
    simp only [Option.some.injEq, Prod.mk.injEq] at hc
    obtain ⟨rfl, rfl, rfl, rfl⟩ := hc
    exact ⟨_, _, _, _, _, _, _, ⟨h1, h2⟩, h⟩
  · rw [if_neg hl] at h; cases h
theorem own_set2 {w : World} {base e size n t b i : Nat} {v : Value} {xs : List Value} (u : Value) (h : w.ownsRow base e size v n xs) (hb : ∃ cs, w.heap[b]? = some (.cells cs t (0, 0))) (hne : e ≠ t) : (w.setCell ⟨b, i, none⟩ u).ownsRow base e size v n xs ∧ ∃ cs, (w.setCell ⟨b, i, none⟩ u).heap[b]? = some (.cells cs t (0, 0)) := by
  obtain ⟨cs, hb⟩ := hb
  refine ⟨own_move h (fun k hk => ?_), cs.setIfInBounds i u, ?_⟩
  · obtain ⟨cs', hc⟩ := own_type h hk
    exact Below.heap_setCell w _ u k (blk_ne hc hb hne)
  · simp [World.setCell, Array.getElem?_modify, hb]
theorem own_set5 {w : World} {base e size n t b : Nat} {v : Value} {xs : List Value} (u0 u1 u2 u3 u4 : Value) (h : w.ownsRow base e size v n xs) (hb : ∃ cs, w.heap[b]? = some (.cells cs t (0, 0))) (hne : e ≠ t) : (((((w.setCell ⟨b, 0, none⟩ u0).setCell ⟨b, 1, none⟩ u1).setCell ⟨b, 2, none⟩ u2).setCell ⟨b, 3, none⟩ u3).setCell ⟨b, 4, none⟩ u4).ownsRow base e size v n xs := by
  obtain ⟨h, hb⟩ := own_set2 (i := 0) u0 h hb hne
  obtain ⟨h, hb⟩ := own_set2 (i := 1) u1 h hb hne
  obtain ⟨h, hb⟩ := own_set2 (i := 2) u2 h hb hne
  obtain ⟨h, hb⟩ := own_set2 (i := 3) u3 h hb hne
  exact (own_set2 (i := 4) u4 h hb hne).1
theorem below_set5 {B b : Nat} {w0 w : World} (u0 u1 u2 u3 u4 : Value) (h : Below B w0 w) (hb : B ≤ b) : Below B w0 (((((w.setCell ⟨b, 0, none⟩ u0).setCell ⟨b, 1, none⟩ u1).setCell ⟨b, 2, none⟩ u2).setCell ⟨b, 3, none⟩ u3).setCell ⟨b, 4, none⟩ u4) :=
  ((((h.setCell (p := ⟨b, 0, none⟩) hb u0).setCell (p := ⟨b, 1, none⟩) hb u1).setCell (p := ⟨b, 2, none⟩) hb u2).setCell (p := ⟨b, 3, none⟩) hb u3).setCell (p := ⟨b, 4, none⟩) hb u4
def edit_Parse.Post (w : World) (R : Int × Int × Int × List S107 × List S111 × Int) (e : Ending) (w' : World) : Prop :=
  ∃ v3_ v4_ : Value, e = .returned (.tuple #[.agg #[.int .u64 R.1, .int .u64 R.2.1, .int .u64 R.2.2.1, v3_, v4_], .int .i64 R.2.2.2.2.2]) ∧ Kd.R k107 107 w' w.heap.size (fun _ => True) v3_ R.2.2.2.1 ∧ Kd.R k111 111 w' w.heap.size (fun _ => True) v4_ R.2.2.2.2.1 ∧ Below w.heap.size w w'
theorem edit_Parse.info107 : (Tryd.prog.info? 107).map (fun i => (i.zero, i.size, i.bytes)) = some (some (.agg #[(.int .i64 0), (.int .u64 0), (.int .u64 0), (.int .u64 0), (.string ⟨#[]⟩), (.string ⟨#[]⟩)]), 6, 64) := by kernel_rfl
theorem edit_Parse.info111 : (Tryd.prog.info? 111).map (fun i => (i.zero, i.size, i.bytes)) = some (some (.agg #[(.int .i64 0), (.int .u64 0)]), 2, 16) := by kernel_rfl
def edit_Parse.J1 (w : World) (g b2 b5 : Nat) (lg nx sq n : Int) (C : List S107 × ByteArray × Int × Int) (i : Int) (W : World) : Prop :=
  ∃ (m : Nat) (s : ByteArray) (p e : Int) (v3 : Value) (l3 : List S107), 0 ≤ i ∧ i + m = n ∧ edit_Parse.St w g b2 b5 s p e #[.int .u64 lg, .int .u64 nx, .int .u64 sq, v3, .slice none 0 0] v3 l3 (.slice none 0 0) [] W ∧ edit_Parse.comes m s p e l3 = some C
def edit_Parse.J2 (w : World) (g b2 b5 : Nat) (lg nx sq n : Int) (l3 : List S107) (v3 : Value) (C : List S111 × ByteArray × Int × Int) (i : Int) (W : World) : Prop :=
  ∃ (m : Nat) (s : ByteArray) (p e : Int) (v4 : Value) (l4 : List S111), 0 ≤ i ∧ i + m = n ∧ edit_Parse.St w g b2 b5 s p e #[.int .u64 lg, .int .u64 nx, .int .u64 sq, v3, v4] v3 l3 v4 l4 W ∧ edit_Parse.gones m s p e l4 = some C
structure edit_Parse.Parts (a0 : ByteArray) (R : Int × Int × Int × List S107 × List S111 × Int) (n1 n2 n3 n4 n6 z : Int) (s1 s2 s3 s4 s5 s6 s7 s8 : ByteArray) (p1 p2 p3 p4 p5 p6 p7 p8 e1 e2 e3 e4 e5 e6 e7 e8 : Int) (l3 : List S107) (l4 : List S111) : Prop where
  a1 : varint_Reader_Num.f a0 0 0 = some (n1, s1, p1, e1)
  a2 : varint_Reader_Num.f s1 p1 e1 = some (n2, s2, p2, e2)
  a3 : varint_Reader_Num.f s2 p2 e2 = some (n3, s3, p3, e3)
  a4 : edit_count.f s3 p3 e3 = some (n4, s4, p4, e4)
  a5 : edit_Parse.comes n4.toNat s4 p4 e4 [] = some (l3, s5, p5, e5)
  a6 : edit_count.f s5 p5 e5 = some (n6, s6, p6, e6)
  a7 : edit_Parse.gones n6.toNat s6 p6 e6 [] = some (l4, s7, p7, e7)
  a8 : varint_Reader_End.f s7 p7 e7 = some (z, s8, p8, e8)
  hr : edit_Parse.fin n1 n2 n3 l3 l4 z = R
  h4 : 0 ≤ n4 ∧ n4 ≤ 18446744073709551615
  h6 : 0 ≤ n6 ∧ n6 ≤ 18446744073709551615
theorem edit_Parse.parts {a0 : ByteArray} {R : Int × Int × Int × List S107 × List S111 × Int} (h : edit_Parse.f a0 = some R) : ∃ n1 n2 n3 n4 n6 z s1 s2 s3 s4 s5 s6 s7 s8 p1 p2 p3 p4 p5 p6 p7 p8 e1 e2 e3 e4 e5 e6 e7 e8 l3 l4, edit_Parse.Parts a0 R n1 n2 n3 n4 n6 z s1 s2 s3 s4 s5 s6 s7 s8 p1 p2 p3 p4 p5 p6 p7 p8 e1 e2 e3 e4 e5 e6 e7 e8 l3 l4 := by
  obtain ⟨⟨n1, s1, p1, e1⟩, A1, h⟩ := Option.bind_eq_some_iff.mp h
  obtain ⟨⟨n2, s2, p2, e2⟩, A2, h⟩ := Option.bind_eq_some_iff.mp h
  obtain ⟨⟨n3, s3, p3, e3⟩, A3, h⟩ := Option.bind_eq_some_iff.mp h
  obtain ⟨⟨n4, s4, p4, e4⟩, A4, h⟩ := Option.bind_eq_some_iff.mp h
  dsimp only at A1 A2 A3 A4 h
  by_cases hn4 : 0 ≤ n4 ∧ n4 ≤ 18446744073709551615
  · rw [if_pos hn4] at h
    obtain ⟨⟨l3, s5, p5, e5⟩, A5, h⟩ := Option.bind_eq_some_iff.mp h
    obtain ⟨⟨n6, s6, p6, e6⟩, A6, h⟩ := Option.bind_eq_some_iff.mp h
    dsimp only at A5 A6 h
    by_cases hn6 : 0 ≤ n6 ∧ n6 ≤ 18446744073709551615
    · rw [if_pos hn6] at h
      obtain ⟨⟨l4, s7, p7, e7⟩, A7, h⟩ := Option.bind_eq_some_iff.mp h
      obtain ⟨⟨z, s8, p8, e8⟩, A8, h⟩ := Option.bind_eq_some_iff.mp h
      dsimp only at A7 A8 h
      exact ⟨_, _, _, _, _, _, _, _, _, _, _, _, _, _, _, _, _, _, _, _, _, _, _, _, _, _, _, _, _, _, _, _, A1, A2, A3, A4, A5, A6, A7, A8, Option.some.inj h, hn4, hn6⟩
    · rw [if_neg hn6] at h; cases h
  · rw [if_neg hn4] at h; cases h
set_option maxHeartbeats 1000000 in
set_option maxRecDepth 100000 in
theorem edit_Parse.walk (a0 : ByteArray) (R : Int × Int × Int × List S107 × List S111 × Int) (w : World) (h : edit_Parse.f a0 = some R) : Calls Tryd.prog 18 #[.string a0] w (edit_Parse.Post w R) := by
  obtain ⟨n1, n2, n3, n4, n6, z, s1, s2, s3, s4, s5, s6, s7, s8, p1, p2, p3, p4, p5, p6, p7, p8, e1, e2, e3, e4, e5, e6, e7, e8, l3, l4, A⟩ := edit_Parse.parts h
  clear h
  obtain ⟨hn4, hu4⟩ := A.h4
  obtain ⟨hn6, hu6⟩ := A.h6
  go_enter Tryd.func18, Tryd.ntmps18
  go_wp2_with fail
  refine (varint_Over.calls a0 a0 0 0 w _ ((Below.refl _ w).alloc (Nat.le_refl _) _) rfl).mono ?_
  rintro e W1 ⟨g, rfl, hi1', hb1, hb1'⟩
  have h21 : W1.heap[w.heap.size]? = some (.cells edit_zero26 26 (0, 0)) := (hb1'.block _ (by simp)).trans (heap_alloc_new w _)
  go_wp2_with fail
  refine (varint_Reader_Num.calls g _ _ _ _ _ _ _ w _ hi1' hb1 A.a1).mono ?_
  rintro e W2 ⟨rfl, hi2, hb2, hk2⟩
  have h22 := blk_kept_keep h21 hk2 hi1'.1 (by decide)
  go_wp2_with fail
  refine (varint_Reader_Num.calls g _ _ _ _ _ _ _ w _ hi2 hb2 A.a2).mono ?_
  rintro e W3 ⟨rfl, hi3, hb3, hk3⟩
  have h23 := blk_kept_keep h22 hk3 hi2.1 (by decide)
  go_wp2_with fail
  refine (varint_Reader_Num.calls g _ _ _ _ _ _ _ w _ hi3 hb3 A.a3).mono ?_
  rintro e W4 ⟨rfl, hi4, hb4, hk4⟩
  have h24 := blk_kept_keep h23 hk4 hi3.1 (by decide)
  go_wp2_with fail
  refine (edit_count.calls g _ _ _ _ _ _ _ w _ (hi4.alloc _) (below_alloc hb4 _) A.a4).mono ?_
  rintro e W5 ⟨rfl, hi5, hb5, hk5⟩
  have S0 : edit_Parse.St w g w.heap.size W4.heap.size s3 p3 e3 #[.int .u64 n1, .int .u64 n2, .int .u64 n3, .slice none 0 0, .slice none 0 0] (.slice none 0 0) [] (.slice none 0 0) [] (W4.alloc (.cells #[.int .u64 n1, .int .u64 n2, .int .u64 n3, .slice none 0 0, .slice none 0 0] 26)) :=
    ⟨hi4.alloc _, blk_alloc h24 _, heap_alloc_new _ _, World.ownsRow_nil _ _ _ _, World.ownsRow_nil _ _ _ _, below_alloc hb4 _, Nat.le_refl _, hb4.size, fun h => by have := heap_lt h24; omega⟩
  have S5 := S0.call hi5 hb5 hk5
  obtain ⟨b5, hb5e⟩ : ∃ b, b = W4.heap.size := ⟨_, rfl⟩
  rw [← hb5e] at S5 ⊢
  have X5 := Hush.mk hb5e
  clear S0 h24 h23 h22 h21 hi1' hi2 hi3 hi4 hi5 hb1 hb1' hb2 hb3 hb4 hb5 hk2 hk3 hk4 hk5 hb5e
  go_wp2_with fail
  go_loopw [7] (fun i wr => ∃ iv : Int, i = .int .u64 iv ∧ edit_Parse.J1 w g w.heap.size b5 n1 n2 n3 n4 (l3, s5, p5, e5) iv wr) (fun i _ => (n4 - intOf i).toNat)
  case atStart => exact ⟨0, rfl, n4.toNat, s4, p4, e4, _, _, by omega, by omega, S5, A.a5⟩
  case round =>
    obtain ⟨iv, rfl, m, s, p, e, v3, l, hi0, him, hS, hc⟩ := hrel
    clear S5
    have HC := Hush.mk hc
    clear hc
    by_cases hgo : iv < n4 ∧ e = 0
    · obtain ⟨hlt, he⟩ := hgo
      obtain ⟨m, rfl⟩ : ∃ m', m = m' + 1 := ⟨m - 1, by omega⟩
      obtain ⟨hll, a, t1, t2, t3, t4, t5, t6, q1, q2, q3, q4, q5, q6, f1, f2, f3, f4, f5, f6, HCm, hcs⟩ := edit_Parse.comes_go (he ▸ HC.out)
      have HN := Hush.mk hcs
      subst he
      clear HC hcs
      go_wp2_with fail
      refine (varint_Reader_Err.calls g s p 0 0 s p 0 w wr hS.rd hS.bel rfl).mono ?_
      rintro e W6 ⟨rfl, hi6, hb6, hk6⟩
      have S6 := hS.call hi6 hb6 hk6
      clear hS hi6 hb6 hk6
      go_wp2_with fail
      refine (edit_levelOf.calls g _ _ _ _ _ _ _ w _ S6.rd S6.bel HCm.c1).mono ?_
      rintro e W7 ⟨rfl, hi7, hb7, hk7⟩
      have S7 := S6.call hi7 hb7 hk7
      clear S6 hi7 hb7 hk7
      have hv3 : v3.ownBlock ≠ some W7.heap.size := fun h => by have := (S7.o3.lt _ h).2; omega
      have ha8 := heap_alloc_new W7 (.cells #[.int .i64 a.f0, .int .u64 0, .int .u64 0, .int .u64 0, .string ⟨#[]⟩, .string ⟨#[]⟩] 107)
      have S8 := S7.alloc (.cells #[.int .i64 a.f0, .int .u64 0, .int .u64 0, .int .u64 0, .string ⟨#[]⟩, .string ⟨#[]⟩] 107)
      have hga : w.heap.size ≤ W7.heap.size := S7.bel.size
      clear S7
      go_wp2_with fail
      obtain ⟨W8, hW8⟩ : ∃ W, W = W7.alloc (.cells #[.int .i64 a.f0, .int .u64 0, .int .u64 0, .int .u64 0, .string ⟨#[]⟩, .string ⟨#[]⟩] 107) := ⟨_, rfl⟩
      rw [← hW8] at S8 ha8 ⊢
      obtain ⟨ba, hba⟩ : ∃ b, b = W7.heap.size := ⟨_, rfl⟩
      rw [← hba] at ha8 hv3 hga ⊢
      clear hba hW8
      refine (varint_Reader_Num.calls g _ _ _ _ _ _ _ w _ S8.rd S8.bel HCm.c2).mono ?_
      rintro e W9 ⟨rfl, hi, hb, hk⟩
      have S9 := S8.call hi hb hk
      have ha9 := blk_kept_keep ha8 hk S8.rd.1 (by decide)
      clear S8 ha8 hi hb hk
      go_wp2_with fail
      refine (varint_Reader_Num.calls g _ _ _ _ _ _ _ w _ S9.rd S9.bel HCm.c3).mono ?_
      rintro e W10 ⟨rfl, hi, hb, hk⟩
      have S10 := S9.call hi hb hk
      have ha10 := blk_kept_keep ha9 hk S9.rd.1 (by decide)
      clear S9 ha9 hi hb hk
      go_wp2_with fail
      refine (varint_Reader_Num.calls g _ _ _ _ _ _ _ w _ S10.rd S10.bel HCm.c4).mono ?_
      rintro e W11 ⟨rfl, hi, hb, hk⟩
      have S11 := S10.call hi hb hk
      have ha11 := blk_kept_keep ha10 hk S10.rd.1 (by decide)
      clear S10 ha10 hi hb hk
      go_wp2_with fail
      refine (varint_Reader_Text.calls g _ _ _ 200 _ _ _ _ w _ S11.rd S11.bel HCm.c5).mono ?_
      rintro e W12 ⟨rfl, hi, hb, hk⟩
      have S12 := S11.call hi hb hk
      have ha12 := blk_kept_keep ha11 hk S11.rd.1 (by decide)
      clear S11 ha11 hi hb hk
      go_wp2_with fail
      refine (varint_Reader_Text.calls g _ _ _ 200 _ _ _ _ w _ S12.rd S12.bel HCm.c6).mono ?_
      rintro e W13 ⟨rfl, hi, hb, hk⟩
      have S13 := S12.call hi hb hk
      have ha13 := blk_kept_keep ha12 hk S12.rd.1 (by decide)
      clear S12 ha12 hi hb hk
      have n5a : b5 ≠ ba := blk_ne S13.h5 ha13 (by decide)
      have na5 : ba ≠ b5 := fun h => n5a h.symm
      have n2a : w.heap.size ≠ ba := blk_ne S13.h2 ha13 (by decide)
      have nga : g ≠ ba := blk_ne S13.rd.1 ha13 (by decide)
      have k0 := (blk_cell ha13 0).trans rfl
      have k1 := (blk_cell ha13 1).trans rfl
      have k2 := (blk_cell ha13 2).trans rfl
      have k3 := (blk_cell ha13 3).trans rfl
      have k4 := (blk_cell ha13 4).trans rfl
      have k5 := (blk_cell ha13 5).trans rfl
      have z1 := blk_frozen ha13 1
      have z2 := blk_frozen ha13 2
      have z3 := blk_frozen ha13 3
      have z4 := blk_frozen ha13 4
      have z5 := blk_frozen ha13 5
      have y3 := (blk_cell S13.h5 3).trans rfl
      obtain ⟨WX, hWX⟩ : ∃ W, W = ((((W13.setCell ⟨ba, 1, none⟩ (.int .u64 a.f1.f0)).setCell ⟨ba, 2, none⟩ (.int .u64 a.f1.f1)).setCell ⟨ba, 3, none⟩ (.int .u64 a.f1.f2)).setCell ⟨ba, 4, none⟩ (.string a.f1.f3)).setCell ⟨ba, 5, none⟩ (.string a.f1.f4) := ⟨_, rfl⟩
      have SX : edit_Parse.St w g w.heap.size b5 t6 q6 f6 #[.int .u64 n1, .int .u64 n2, .int .u64 n3, v3, .slice none 0 0] v3 l (.slice none 0 0) [] WX := by
        rw [hWX]
        exact ((((S13.far (b := ba) (i := 1) (.int .u64 a.f1.f0) hga nga n2a n5a hv3 (by simp [Value.ownBlock])).far (b := ba) (i := 2) (.int .u64 a.f1.f1) hga nga n2a n5a hv3 (by simp [Value.ownBlock])).far (b := ba) (i := 3) (.int .u64 a.f1.f2) hga nga n2a n5a hv3 (by simp [Value.ownBlock])).far (b := ba) (i := 4) (.string a.f1.f3) hga nga n2a n5a hv3 (by simp [Value.ownBlock])).far (b := ba) (i := 5) (.string a.f1.f4) hga nga n2a n5a hv3 (by simp [Value.ownBlock])
      have LX := Hush.mk hll
      have HX := Hush.mk hWX
      have SY := SX.alloc (.cells #[.int .i64 a.f0, .int .u64 a.f1.f0, .int .u64 a.f1.f1, .int .u64 a.f1.f2, .string a.f1.f3, .string a.f1.f4] 107)
      have NY : ∀ j u, (edit_cells107 a)[j]? = some u → (WX.alloc (.cells #[.int .i64 a.f0, .int .u64 a.f1.f0, .int .u64 a.f1.f1, .int .u64 a.f1.f2, .string a.f1.f3, .string a.f1.f4] 107)).cell? ((⟨WX.heap.size, 0, none⟩ : Addr).add j) = some u := cells_new WX (edit_cells107 a) 107
      have SZ := Hush.mk SY.bel.size
      have SY := Hush.mk SY
      have NY := Hush.mk NY
      clear hv3 hWX SX hll
      rename_i SY0 NY0
      clear SY0 NY0 ha13 S13
      obtain ⟨I7, HI7, HZ0, HZ1, HZ2⟩ := info_parts edit_Parse.info107
      go_wp2_with (at_builtin; rw [← HX.out]; refine wpList_append_own _ rfl _ _ 23 rfl w.heap.size 107 I7 _ 6 64 Tryd.underlying23 HI7 HZ0 HZ1 HZ2 rfl (by decide) v3 l.length (l.flatMap edit_cells107) rfl SY.out.o3 ⟨WX.heap.size, 0, none⟩ 1 1 (edit_cells107 a) ?ca rfl NY.out ?c2 ?c3 ?c4 ?c5 ?_)
      case ca =>
        have hsz : WX.heap.size = W13.heap.size := by rw [HX.out]; simp [World.setCell]
        rw [hsz]
        rfl
      case c2 => intro u hu; simp [edit_cells107] at hu; rcases hu with rfl | rfl | rfl | rfl | rfl | rfl <;> rfl
      case c3 => have := LX.out; unfold maxLen; omega
      case c4 => have := LX.out; omega
      case c5 => exact SZ.out
      intro v' w1 hown1 hgrow _
      have SP := SY.out.push3 hown1 hgrow
      obtain ⟨A', cap', rfl⟩ : ∃ A' c', v' = .slice A' (l.length + 1) c' := by
        rcases hown1.2 with ⟨rfl, h0⟩ | ⟨g', cap, cur, rfl, _⟩
        · simp [edit_cells107] at h0
        · exact ⟨_, _, rfl⟩
      have y4 := (blk_cell SP.h5 3).trans rfl
      have x4 := blk_frozen SP.h5 3
      have SQ := Hush.mk (SP.set5 3 (.slice A' (l.length + 1) cap'))
      clear SP hown1 hgrow n5a na5 k0 k1 k2 k3 k4 k5 z1 z2 z3 z4 z5 y3
      go_wp2
      go_roundw
      case rel => exact ⟨iv + 1, by go_num, m, t6, q6, f6, _, l ++ [a], by omega, by omega, SQ.out, HN.out⟩
      case measure => simp [intOf]; omega
    · have hst := edit_Parse.comes_stop HC.out (by omega)
      simp only [Prod.mk.injEq] at hst
      obtain ⟨rfl, rfl, rfl, rfl⟩ := hst
      clear HC
      by_cases hlt : iv < n4
      · have he : (e == 0) = false := by simpa using (fun h => hgo ⟨hlt, h⟩ : ¬ e = 0)
        clear hgo
        go_wp2_with fail
        refine (varint_Reader_Err.calls g s p e e s p e w wr hS.rd hS.bel rfl).mono ?_
        rintro e_ W6 ⟨rfl, hi6, hb6, hk6⟩
        have S6 := hS.call hi6 hb6 hk6
        clear hS hi6 hb6 hk6
        go_wp2_with fail
        refine (edit_count.calls g _ _ _ _ _ _ _ w _ S6.rd S6.bel A.a6).mono ?_
        rintro e_ W20 ⟨rfl, hi20, hb20, hk20⟩
        have T0 := S6.call hi20 hb20 hk20
        clear S6 hi20 hb20 hk20
        go_wp2_with fail
        go_loopw [9] (fun i wr => ∃ iv : Int, i = .int .u64 iv ∧ edit_Parse.J2 w g w.heap.size b5 n1 n2 n3 n6 l v3 (l4, s7, p7, e7) iv wr) (fun i _ => (n6 - intOf i).toNat)
        case atStart => exact ⟨0, rfl, n6.toNat, s6, p6, e6, _, _, by omega, by omega, T0, A.a7⟩
        case round =>
          clear T0
          obtain ⟨iv, rfl, m, s, p, e, v4, lg, hi0, him, hT, hc⟩ := hrel
          have HC := Hush.mk hc
          clear hc
          by_cases hgo : iv < n6 ∧ e = 0
          · obtain ⟨hlt2, he⟩ := hgo
            obtain ⟨m, rfl⟩ : ∃ m', m = m' + 1 := ⟨m - 1, by omega⟩
            obtain ⟨hll, a, t1, t2, q1, q2, f1, f2, HCm, hcs⟩ := edit_Parse.gones_go (he ▸ HC.out)
            have HN := Hush.mk hcs
            have LX := Hush.mk hll
            subst he
            clear HC hcs hll
            go_wp2_with fail
            refine (varint_Reader_Err.calls g s p 0 0 s p 0 w wr hT.rd hT.bel rfl).mono ?_
            rintro e_ W21 ⟨rfl, hi, hb, hk⟩
            have T1 := hT.call hi hb hk
            have y1 : W21.cell? ⟨b5, 4, none⟩ = some v4 := blk_cell T1.h5 4
            clear hT hi hb hk
            go_wp2_with fail
            obtain ⟨hc1, hc2⟩ := HCm
            have T1 := T1.drew
            have HC1 := Hush.mk hc1
            have HC2 := Hush.mk hc2
            clear hc1 hc2
            obtain ⟨I7, HI7, HZ0, HZ1, HZ2⟩ := info_parts edit_Parse.info111
            go_region_law (first | (refine step_append_lies _ rfl _ _ 24 rfl w.heap.size 111 I7 _ 2 16 Tryd.underlying24 HI7 HZ0 HZ1 HZ2 rfl (by decide) v4 lg.length (lg.flatMap edit_cells111) rfl (T3.alloc (.cells #[.int .i64 a.f0, .int .u64 a.f1] 111)).o4 ⟨W23.heap.size, 0, none⟩ 1 1 (edit_cells111 a) rfl rfl (cells_new W23 (edit_cells111 a) 111) (by intro u hu; simp [edit_cells111] at hu; rcases hu with rfl | rfl <;> rfl) (by decide) (by have := LX.out; unfold maxLen; omega) (by have := LX.out; omega) (T3.alloc (.cells #[.int .i64 a.f0, .int .u64 a.f1] 111)).bel.size _ rfl ?_; intro g' cap' w1 hown1 hgrow _ _; have TP := (T3.alloc (.cells #[.int .i64 a.f0, .int .u64 a.f1] 111)).push4 hown1 hgrow; have y4 := (blk_cell TP.h5 4).trans rfl; have x4 := blk_frozen TP.h5 4; have TQ := Hush.mk (TP.set5 4 (.slice (some ⟨g', 0, none⟩) (lg.length + 1) cap')); clear TP hown1 hgrow) | (go_simp; go_at_call 59; refine (edit_levelOf.calls g s p 0 a.f0 t1 q1 f1 w _ T1.rd T1.bel HC1.out).mono ?_; rintro e_ W22 ⟨rfl, hi, hb, hk⟩; have T2 : edit_Parse.St w g w.heap.size b5 t1 q1 f1 _ v3 l v4 lg W22 := T1.call hi hb hk; have y2 : W22.cell? ⟨b5, 4, none⟩ = some v4 := blk_cell T2.h5 4; clear hi hb hk) | (go_simp; go_at_call 56; refine (varint_Reader_Num.calls g t1 q1 f1 a.f1 t2 q2 f2 w _ T2.rd T2.bel HC2.out).mono ?_; rintro e_ W23 ⟨rfl, hi, hb, hk⟩; have T3 : edit_Parse.St w g w.heap.size b5 t2 q2 f2 _ v3 l v4 lg W23 := T2.call hi hb hk; have y3 : W23.cell? ⟨b5, 4, none⟩ = some v4 := blk_cell T3.h5 4; have y3a : (W23.alloc (.cells #[.int .i64 a.f0, .int .u64 a.f1] 111)).cell? ⟨b5, 4, none⟩ = some v4 := blk_cell (T3.alloc (.cells #[.int .i64 a.f0, .int .u64 a.f1] 111)).h5 4; clear hi hb hk))
            all_goals
              go_wp2
              go_roundw
              case rel => exact ⟨iv + 1, by go_num, m, t2, q2, f2, _, lg ++ [a], by omega, by omega, TQ.out, HN.out⟩
              case measure => simp [intOf]; omega
          · have hst := edit_Parse.gones_stop HC.out (by omega)
            simp only [Prod.mk.injEq] at hst
            obtain ⟨rfl, rfl, rfl, rfl⟩ := hst
            clear HC
            by_cases hlt2 : iv < n6
            · have he : (e == 0) = false := by simpa using (fun h => hgo ⟨hlt2, h⟩ : ¬ e = 0)
              clear hgo
              go_wp2_with fail
              refine (varint_Reader_Err.calls g s p e e s p e w wr hT.rd hT.bel rfl).mono ?_
              rintro e_ W21 ⟨rfl, hi, hb, hk⟩
              have T1 := hT.call hi hb hk
              clear hT hi hb hk
              go_wp2_with fail
              refine (varint_Reader_End.calls g _ _ _ _ _ _ _ w _ T1.rd T1.bel A.a8).mono ?_
              rintro e_ W30 ⟨rfl, hi, hb, hk⟩
              have U := T1.call hi hb hk
              have HA := Hush.mk A.hr
              clear T1 hi hb hk
              have R3 := R_of_own (d := k107) edit_cells107 (fun _ => rfl) (fun ok x => k107_mkM _ _ ok x) U.o3
              have R4 := R_of_own (d := k111) edit_cells111 (fun _ => rfl) (fun ok x => k111_mkM _ _ ok x) U.o4
              obtain ⟨A3, c3, rfl, _, hC3⟩ := Kd.R_reads R3
              obtain ⟨A4, c4, rfl, _, hC4⟩ := Kd.R_reads R4
              have C3 := Hush.mk hC3
              have C4 := Hush.mk hC4
              have R3 := Hush.mk R3
              have R4 := Hush.mk R4
              have x0 : W30.cell? ⟨b5, 0, none⟩ = some (.int .u64 n1) := blk_cell U.h5 0
              have x1 : W30.cell? ⟨b5, 1, none⟩ = some (.int .u64 n2) := blk_cell U.h5 1
              have x2 : W30.cell? ⟨b5, 2, none⟩ = some (.int .u64 n3) := blk_cell U.h5 2
              have x3 : W30.cell? ⟨b5, 3, none⟩ = some (.slice A3 l.length c3) := blk_cell U.h5 3
              have x4 : W30.cell? ⟨b5, 4, none⟩ = some (.slice A4 lg.length c4) := blk_cell U.h5 4
              clear hC3 hC4
              by_cases hz : z = 0
              · have hz1 : (z == 0) = true := by simpa using hz
                have HZ := Hush.mk hz
                clear hz
                go_wp2_with fail
                refine (edit_Edit_Check.walk n1 n2 n3 A3 c3 l A4 c4 lg W30 C3.out C4.out).mono ?_
                rintro e_ W31 ⟨rfl, hb31⟩
                have h2' := (hb31.block _ (heap_lt U.h2)).trans U.h2
                have h5' := (hb31.block _ (heap_lt U.h5)).trans U.h5
                have o3' := Hush.mk (own_move U.o3 (fun k hk => by obtain ⟨cs, hc⟩ := own_type U.o3 hk; exact hb31.block _ (heap_lt hc)))
                have o4' := Hush.mk (own_move U.o4 (fun k hk => by obtain ⟨cs, hc⟩ := own_type U.o4 hk; exact hb31.block _ (heap_lt hc)))
                have bel' := Hush.mk (U.bel.trans (hb31.mono U.bel.size))
                have x0 : W31.cell? ⟨b5, 0, none⟩ = some (.int .u64 n1) := blk_cell h5' 0
                have x1 : W31.cell? ⟨b5, 1, none⟩ = some (.int .u64 n2) := blk_cell h5' 1
                have x2 : W31.cell? ⟨b5, 2, none⟩ = some (.int .u64 n3) := blk_cell h5' 2
                have x3 : W31.cell? ⟨b5, 3, none⟩ = some (.slice A3 l.length c3) := blk_cell h5' 3
                have x4 : W31.cell? ⟨b5, 4, none⟩ = some (.slice A4 lg.length c4) := blk_cell h5' 4
                have d0 : W31.cell? ⟨w.heap.size, 0, none⟩ = some (.int .u64 0) := blk_cell h2' 0
                have f0 := blk_frozen h2' 0
                have d1 : W31.cell? ⟨w.heap.size, 1, none⟩ = some (.int .u64 0) := blk_cell h2' 1
                have f1 := blk_frozen h2' 1
                have d2 : W31.cell? ⟨w.heap.size, 2, none⟩ = some (.int .u64 0) := blk_cell h2' 2
                have f2 := blk_frozen h2' 2
                have d3 : W31.cell? ⟨w.heap.size, 3, none⟩ = some (.slice none 0 0) := blk_cell h2' 3
                have f3 := blk_frozen h2' 3
                have d4 : W31.cell? ⟨w.heap.size, 4, none⟩ = some (.slice none 0 0) := blk_cell h2' 4
                have f4 := blk_frozen h2' 4
                have H2 := Hush.mk h2'
                clear h2' h5' hb31 U
                obtain ⟨cv, hcv⟩ : ∃ c, c = edit_Edit_Check.val l lg := ⟨_, rfl⟩
                rw [← hcv]
                have HV := Hush.mk hcv
                clear hcv
                by_cases hv : cv = 0
                · have hv1 : (cv == 0) = true := by simpa using hv
                  have hv2 : (cv != 0) = false := by simpa using hv
                  have HR : Hush (R = (n1, n2, n3, l, lg, 0)) := ⟨by rw [← HA.out, edit_Parse.fin, if_pos HZ.out, ← HV.out, if_pos hv]⟩
                  clear hv
                  go_wp2
                  obtain rfl := HR.out
                  exact bodyPost_ret (v := .tuple #[.agg #[.int .u64 n1, .int .u64 n2, .int .u64 n3, .slice A3 l.length c3, .slice A4 lg.length c4], .int .i64 0]) (by simp [results, Tryd.results18, go_sem, d0, d1, d2, d3, d4]) rfl
                    ⟨_, _, rfl, R_of_own (d := k107) edit_cells107 (fun _ => rfl) (fun ok x => k107_mkM _ _ ok x) (own_set5 _ _ _ _ _ o3'.out ⟨_, H2.out⟩ (by decide)), R_of_own (d := k111) edit_cells111 (fun _ => rfl) (fun ok x => k111_mkM _ _ ok x) (own_set5 _ _ _ _ _ o4'.out ⟨_, H2.out⟩ (by decide)), below_set5 _ _ _ _ _ bel'.out (Nat.le_refl _)⟩
                · have hv1 : (cv == 0) = false := by simpa using hv
                  have hv2 : (cv != 0) = true := by simpa using hv
                  have HR : Hush (R = (0, 0, 0, [], [], cv)) := ⟨by rw [← HA.out, edit_Parse.fin, if_pos HZ.out, ← HV.out, if_neg hv]⟩
                  clear hv
                  go_wp2
                  obtain rfl := HR.out
                  exact bodyPost_ret (v := .tuple #[.agg #[.int .u64 0, .int .u64 0, .int .u64 0, .slice none 0 0, .slice none 0 0], .int .i64 cv]) (by simp [results, Tryd.results18, go_sem, d0, d1, d2, d3, d4]) rfl ⟨_, _, rfl, Kd.R_nil _ _ _ _ _, Kd.R_nil _ _ _ _ _, below_set5 _ _ _ _ _ bel'.out (Nat.le_refl _)⟩
              · have hz1 : (z == 0) = false := by simpa using hz
                have hz2 : (z != 0) = true := by simpa using hz
                have HR : Hush (R = (0, 0, 0, [], [], z)) := ⟨by rw [← HA.out, edit_Parse.fin, if_neg hz]⟩
                clear hz
                have d0 : W30.cell? ⟨w.heap.size, 0, none⟩ = some (.int .u64 0) := blk_cell U.h2 0
                have f0 := blk_frozen U.h2 0
                have d1 : W30.cell? ⟨w.heap.size, 1, none⟩ = some (.int .u64 0) := blk_cell U.h2 1
                have f1 := blk_frozen U.h2 1
                have d2 : W30.cell? ⟨w.heap.size, 2, none⟩ = some (.int .u64 0) := blk_cell U.h2 2
                have f2 := blk_frozen U.h2 2
                have d3 : W30.cell? ⟨w.heap.size, 3, none⟩ = some (.slice none 0 0) := blk_cell U.h2 3
                have f3 := blk_frozen U.h2 3
                have d4 : W30.cell? ⟨w.heap.size, 4, none⟩ = some (.slice none 0 0) := blk_cell U.h2 4
                have f4 := blk_frozen U.h2 4
                have HU := Hush.mk U
                clear U
                go_wp2
                obtain rfl := HR.out
                exact bodyPost_ret (v := .tuple #[.agg #[.int .u64 0, .int .u64 0, .int .u64 0, .slice none 0 0, .slice none 0 0], .int .i64 z]) (by simp [results, Tryd.results18, go_sem, d0, d1, d2, d3, d4]) rfl ⟨_, _, rfl, Kd.R_nil _ _ _ _ _, Kd.R_nil _ _ _ _ _, below_set5 _ _ _ _ _ HU.out.bel (Nat.le_refl _)⟩
            · clear hgo
              go_wp2_with fail
              refine (varint_Reader_End.calls g _ _ _ _ _ _ _ w _ hT.rd hT.bel A.a8).mono ?_
              rintro e_ W30 ⟨rfl, hi, hb, hk⟩
              have U := hT.call hi hb hk
              have HA := Hush.mk A.hr
              clear hT hi hb hk
              have R3 := R_of_own (d := k107) edit_cells107 (fun _ => rfl) (fun ok x => k107_mkM _ _ ok x) U.o3
              have R4 := R_of_own (d := k111) edit_cells111 (fun _ => rfl) (fun ok x => k111_mkM _ _ ok x) U.o4
              obtain ⟨A3, c3, rfl, _, hC3⟩ := Kd.R_reads R3
              obtain ⟨A4, c4, rfl, _, hC4⟩ := Kd.R_reads R4
              have C3 := Hush.mk hC3
              have C4 := Hush.mk hC4
              have R3 := Hush.mk R3
              have R4 := Hush.mk R4
              have x0 : W30.cell? ⟨b5, 0, none⟩ = some (.int .u64 n1) := blk_cell U.h5 0
              have x1 : W30.cell? ⟨b5, 1, none⟩ = some (.int .u64 n2) := blk_cell U.h5 1
              have x2 : W30.cell? ⟨b5, 2, none⟩ = some (.int .u64 n3) := blk_cell U.h5 2
              have x3 : W30.cell? ⟨b5, 3, none⟩ = some (.slice A3 l.length c3) := blk_cell U.h5 3
              have x4 : W30.cell? ⟨b5, 4, none⟩ = some (.slice A4 lg.length c4) := blk_cell U.h5 4
              clear hC3 hC4
              by_cases hz : z = 0
              · have hz1 : (z == 0) = true := by simpa using hz
                have HZ := Hush.mk hz
                clear hz
                go_wp2_with fail
                refine (edit_Edit_Check.walk n1 n2 n3 A3 c3 l A4 c4 lg W30 C3.out C4.out).mono ?_
                rintro e_ W31 ⟨rfl, hb31⟩
                have h2' := (hb31.block _ (heap_lt U.h2)).trans U.h2
                have h5' := (hb31.block _ (heap_lt U.h5)).trans U.h5
                have o3' := Hush.mk (own_move U.o3 (fun k hk => by obtain ⟨cs, hc⟩ := own_type U.o3 hk; exact hb31.block _ (heap_lt hc)))
                have o4' := Hush.mk (own_move U.o4 (fun k hk => by obtain ⟨cs, hc⟩ := own_type U.o4 hk; exact hb31.block _ (heap_lt hc)))
                have bel' := Hush.mk (U.bel.trans (hb31.mono U.bel.size))
                have x0 : W31.cell? ⟨b5, 0, none⟩ = some (.int .u64 n1) := blk_cell h5' 0
                have x1 : W31.cell? ⟨b5, 1, none⟩ = some (.int .u64 n2) := blk_cell h5' 1
                have x2 : W31.cell? ⟨b5, 2, none⟩ = some (.int .u64 n3) := blk_cell h5' 2
                have x3 : W31.cell? ⟨b5, 3, none⟩ = some (.slice A3 l.length c3) := blk_cell h5' 3
                have x4 : W31.cell? ⟨b5, 4, none⟩ = some (.slice A4 lg.length c4) := blk_cell h5' 4
                have d0 : W31.cell? ⟨w.heap.size, 0, none⟩ = some (.int .u64 0) := blk_cell h2' 0
                have f0 := blk_frozen h2' 0
                have d1 : W31.cell? ⟨w.heap.size, 1, none⟩ = some (.int .u64 0) := blk_cell h2' 1
                have f1 := blk_frozen h2' 1
                have d2 : W31.cell? ⟨w.heap.size, 2, none⟩ = some (.int .u64 0) := blk_cell h2' 2
                have f2 := blk_frozen h2' 2
                have d3 : W31.cell? ⟨w.heap.size, 3, none⟩ = some (.slice none 0 0) := blk_cell h2' 3
                have f3 := blk_frozen h2' 3
                have d4 : W31.cell? ⟨w.heap.size, 4, none⟩ = some (.slice none 0 0) := blk_cell h2' 4
                have f4 := blk_frozen h2' 4
                have H2 := Hush.mk h2'
                clear h2' h5' hb31 U
                obtain ⟨cv, hcv⟩ : ∃ c, c = edit_Edit_Check.val l lg := ⟨_, rfl⟩
                rw [← hcv]
                have HV := Hush.mk hcv
                clear hcv
                by_cases hv : cv = 0
                · have hv1 : (cv == 0) = true := by simpa using hv
                  have hv2 : (cv != 0) = false := by simpa using hv
                  have HR : Hush (R = (n1, n2, n3, l, lg, 0)) := ⟨by rw [← HA.out, edit_Parse.fin, if_pos HZ.out, ← HV.out, if_pos hv]⟩
                  clear hv
                  go_wp2
                  obtain rfl := HR.out
                  exact bodyPost_ret (v := .tuple #[.agg #[.int .u64 n1, .int .u64 n2, .int .u64 n3, .slice A3 l.length c3, .slice A4 lg.length c4], .int .i64 0]) (by simp [results, Tryd.results18, go_sem, d0, d1, d2, d3, d4]) rfl
                    ⟨_, _, rfl, R_of_own (d := k107) edit_cells107 (fun _ => rfl) (fun ok x => k107_mkM _ _ ok x) (own_set5 _ _ _ _ _ o3'.out ⟨_, H2.out⟩ (by decide)), R_of_own (d := k111) edit_cells111 (fun _ => rfl) (fun ok x => k111_mkM _ _ ok x) (own_set5 _ _ _ _ _ o4'.out ⟨_, H2.out⟩ (by decide)), below_set5 _ _ _ _ _ bel'.out (Nat.le_refl _)⟩
                · have hv1 : (cv == 0) = false := by simpa using hv
                  have hv2 : (cv != 0) = true := by simpa using hv
                  have HR : Hush (R = (0, 0, 0, [], [], cv)) := ⟨by rw [← HA.out, edit_Parse.fin, if_pos HZ.out, ← HV.out, if_neg hv]⟩
                  clear hv
                  go_wp2
                  obtain rfl := HR.out
                  exact bodyPost_ret (v := .tuple #[.agg #[.int .u64 0, .int .u64 0, .int .u64 0, .slice none 0 0, .slice none 0 0], .int .i64 cv]) (by simp [results, Tryd.results18, go_sem, d0, d1, d2, d3, d4]) rfl ⟨_, _, rfl, Kd.R_nil _ _ _ _ _, Kd.R_nil _ _ _ _ _, below_set5 _ _ _ _ _ bel'.out (Nat.le_refl _)⟩
              · have hz1 : (z == 0) = false := by simpa using hz
                have hz2 : (z != 0) = true := by simpa using hz
                have HR : Hush (R = (0, 0, 0, [], [], z)) := ⟨by rw [← HA.out, edit_Parse.fin, if_neg hz]⟩
                clear hz
                have d0 : W30.cell? ⟨w.heap.size, 0, none⟩ = some (.int .u64 0) := blk_cell U.h2 0
                have f0 := blk_frozen U.h2 0
                have d1 : W30.cell? ⟨w.heap.size, 1, none⟩ = some (.int .u64 0) := blk_cell U.h2 1
                have f1 := blk_frozen U.h2 1
                have d2 : W30.cell? ⟨w.heap.size, 2, none⟩ = some (.int .u64 0) := blk_cell U.h2 2
                have f2 := blk_frozen U.h2 2
                have d3 : W30.cell? ⟨w.heap.size, 3, none⟩ = some (.slice none 0 0) := blk_cell U.h2 3
                have f3 := blk_frozen U.h2 3
                have d4 : W30.cell? ⟨w.heap.size, 4, none⟩ = some (.slice none 0 0) := blk_cell U.h2 4
                have f4 := blk_frozen U.h2 4
                have HU := Hush.mk U
                clear U
                go_wp2
                obtain rfl := HR.out
                exact bodyPost_ret (v := .tuple #[.agg #[.int .u64 0, .int .u64 0, .int .u64 0, .slice none 0 0, .slice none 0 0], .int .i64 z]) (by simp [results, Tryd.results18, go_sem, d0, d1, d2, d3, d4]) rfl ⟨_, _, rfl, Kd.R_nil _ _ _ _ _, Kd.R_nil _ _ _ _ _, below_set5 _ _ _ _ _ HU.out.bel (Nat.le_refl _)⟩
      · clear hgo
        go_wp2_with fail
        refine (edit_count.calls g _ _ _ _ _ _ _ w _ hS.rd hS.bel A.a6).mono ?_
        rintro e_ W20 ⟨rfl, hi20, hb20, hk20⟩
        have T0 := hS.call hi20 hb20 hk20
        clear hS hi20 hb20 hk20
        go_wp2_with fail
        go_loopw [9] (fun i wr => ∃ iv : Int, i = .int .u64 iv ∧ edit_Parse.J2 w g w.heap.size b5 n1 n2 n3 n6 l v3 (l4, s7, p7, e7) iv wr) (fun i _ => (n6 - intOf i).toNat)
        case atStart => exact ⟨0, rfl, n6.toNat, s6, p6, e6, _, _, by omega, by omega, T0, A.a7⟩
        case round =>
          clear T0
          obtain ⟨iv, rfl, m, s, p, e, v4, lg, hi0, him, hT, hc⟩ := hrel
          have HC := Hush.mk hc
          clear hc
          by_cases hgo : iv < n6 ∧ e = 0
          · obtain ⟨hlt2, he⟩ := hgo
            obtain ⟨m, rfl⟩ : ∃ m', m = m' + 1 := ⟨m - 1, by omega⟩
            obtain ⟨hll, a, t1, t2, q1, q2, f1, f2, HCm, hcs⟩ := edit_Parse.gones_go (he ▸ HC.out)
            have HN := Hush.mk hcs
            have LX := Hush.mk hll
            subst he
            clear HC hcs hll
            go_wp2_with fail
            refine (varint_Reader_Err.calls g s p 0 0 s p 0 w wr hT.rd hT.bel rfl).mono ?_
            rintro e_ W21 ⟨rfl, hi, hb, hk⟩
            have T1 := hT.call hi hb hk
            have y1 : W21.cell? ⟨b5, 4, none⟩ = some v4 := blk_cell T1.h5 4
            clear hT hi hb hk
            go_wp2_with fail
            obtain ⟨hc1, hc2⟩ := HCm
            have T1 := T1.drew
            have HC1 := Hush.mk hc1
            have HC2 := Hush.mk hc2
            clear hc1 hc2
            obtain ⟨I7, HI7, HZ0, HZ1, HZ2⟩ := info_parts edit_Parse.info111
            go_region_law (first | (refine step_append_lies _ rfl _ _ 24 rfl w.heap.size 111 I7 _ 2 16 Tryd.underlying24 HI7 HZ0 HZ1 HZ2 rfl (by decide) v4 lg.length (lg.flatMap edit_cells111) rfl (T3.alloc (.cells #[.int .i64 a.f0, .int .u64 a.f1] 111)).o4 ⟨W23.heap.size, 0, none⟩ 1 1 (edit_cells111 a) rfl rfl (cells_new W23 (edit_cells111 a) 111) (by intro u hu; simp [edit_cells111] at hu; rcases hu with rfl | rfl <;> rfl) (by decide) (by have := LX.out; unfold maxLen; omega) (by have := LX.out; omega) (T3.alloc (.cells #[.int .i64 a.f0, .int .u64 a.f1] 111)).bel.size _ rfl ?_; intro g' cap' w1 hown1 hgrow _ _; have TP := (T3.alloc (.cells #[.int .i64 a.f0, .int .u64 a.f1] 111)).push4 hown1 hgrow; have y4 := (blk_cell TP.h5 4).trans rfl; have x4 := blk_frozen TP.h5 4; have TQ := Hush.mk (TP.set5 4 (.slice (some ⟨g', 0, none⟩) (lg.length + 1) cap')); clear TP hown1 hgrow) | (go_simp; go_at_call 59; refine (edit_levelOf.calls g s p 0 a.f0 t1 q1 f1 w _ T1.rd T1.bel HC1.out).mono ?_; rintro e_ W22 ⟨rfl, hi, hb, hk⟩; have T2 : edit_Parse.St w g w.heap.size b5 t1 q1 f1 _ v3 l v4 lg W22 := T1.call hi hb hk; have y2 : W22.cell? ⟨b5, 4, none⟩ = some v4 := blk_cell T2.h5 4; clear hi hb hk) | (go_simp; go_at_call 56; refine (varint_Reader_Num.calls g t1 q1 f1 a.f1 t2 q2 f2 w _ T2.rd T2.bel HC2.out).mono ?_; rintro e_ W23 ⟨rfl, hi, hb, hk⟩; have T3 : edit_Parse.St w g w.heap.size b5 t2 q2 f2 _ v3 l v4 lg W23 := T2.call hi hb hk; have y3 : W23.cell? ⟨b5, 4, none⟩ = some v4 := blk_cell T3.h5 4; have y3a : (W23.alloc (.cells #[.int .i64 a.f0, .int .u64 a.f1] 111)).cell? ⟨b5, 4, none⟩ = some v4 := blk_cell (T3.alloc (.cells #[.int .i64 a.f0, .int .u64 a.f1] 111)).h5 4; clear hi hb hk))
            all_goals
              go_wp2
              go_roundw
              case rel => exact ⟨iv + 1, by go_num, m, t2, q2, f2, _, lg ++ [a], by omega, by omega, TQ.out, HN.out⟩
              case measure => simp [intOf]; omega
          · have hst := edit_Parse.gones_stop HC.out (by omega)
            simp only [Prod.mk.injEq] at hst
            obtain ⟨rfl, rfl, rfl, rfl⟩ := hst
            clear HC
            by_cases hlt2 : iv < n6
            · have he : (e == 0) = false := by simpa using (fun h => hgo ⟨hlt2, h⟩ : ¬ e = 0)
              clear hgo
              go_wp2_with fail
              refine (varint_Reader_Err.calls g s p e e s p e w wr hT.rd hT.bel rfl).mono ?_
              rintro e_ W21 ⟨rfl, hi, hb, hk⟩
              have T1 := hT.call hi hb hk
              clear hT hi hb hk
              go_wp2_with fail
              refine (varint_Reader_End.calls g _ _ _ _ _ _ _ w _ T1.rd T1.bel A.a8).mono ?_
              rintro e_ W30 ⟨rfl, hi, hb, hk⟩
              have U := T1.call hi hb hk
              have HA := Hush.mk A.hr
              clear T1 hi hb hk
              have R3 := R_of_own (d := k107) edit_cells107 (fun _ => rfl) (fun ok x => k107_mkM _ _ ok x) U.o3
              have R4 := R_of_own (d := k111) edit_cells111 (fun _ => rfl) (fun ok x => k111_mkM _ _ ok x) U.o4
              obtain ⟨A3, c3, rfl, _, hC3⟩ := Kd.R_reads R3
              obtain ⟨A4, c4, rfl, _, hC4⟩ := Kd.R_reads R4
              have C3 := Hush.mk hC3
              have C4 := Hush.mk hC4
              have R3 := Hush.mk R3
              have R4 := Hush.mk R4
              have x0 : W30.cell? ⟨b5, 0, none⟩ = some (.int .u64 n1) := blk_cell U.h5 0
              have x1 : W30.cell? ⟨b5, 1, none⟩ = some (.int .u64 n2) := blk_cell U.h5 1
              have x2 : W30.cell? ⟨b5, 2, none⟩ = some (.int .u64 n3) := blk_cell U.h5 2
              have x3 : W30.cell? ⟨b5, 3, none⟩ = some (.slice A3 l.length c3) := blk_cell U.h5 3
              have x4 : W30.cell? ⟨b5, 4, none⟩ = some (.slice A4 lg.length c4) := blk_cell U.h5 4
              clear hC3 hC4
              by_cases hz : z = 0
              · have hz1 : (z == 0) = true := by simpa using hz
                have HZ := Hush.mk hz
                clear hz
                go_wp2_with fail
                refine (edit_Edit_Check.walk n1 n2 n3 A3 c3 l A4 c4 lg W30 C3.out C4.out).mono ?_
                rintro e_ W31 ⟨rfl, hb31⟩
                have h2' := (hb31.block _ (heap_lt U.h2)).trans U.h2
                have h5' := (hb31.block _ (heap_lt U.h5)).trans U.h5
                have o3' := Hush.mk (own_move U.o3 (fun k hk => by obtain ⟨cs, hc⟩ := own_type U.o3 hk; exact hb31.block _ (heap_lt hc)))
                have o4' := Hush.mk (own_move U.o4 (fun k hk => by obtain ⟨cs, hc⟩ := own_type U.o4 hk; exact hb31.block _ (heap_lt hc)))
                have bel' := Hush.mk (U.bel.trans (hb31.mono U.bel.size))
                have x0 : W31.cell? ⟨b5, 0, none⟩ = some (.int .u64 n1) := blk_cell h5' 0
                have x1 : W31.cell? ⟨b5, 1, none⟩ = some (.int .u64 n2) := blk_cell h5' 1
                have x2 : W31.cell? ⟨b5, 2, none⟩ = some (.int .u64 n3) := blk_cell h5' 2
                have x3 : W31.cell? ⟨b5, 3, none⟩ = some (.slice A3 l.length c3) := blk_cell h5' 3
                have x4 : W31.cell? ⟨b5, 4, none⟩ = some (.slice A4 lg.length c4) := blk_cell h5' 4
                have d0 : W31.cell? ⟨w.heap.size, 0, none⟩ = some (.int .u64 0) := blk_cell h2' 0
                have f0 := blk_frozen h2' 0
                have d1 : W31.cell? ⟨w.heap.size, 1, none⟩ = some (.int .u64 0) := blk_cell h2' 1
                have f1 := blk_frozen h2' 1
                have d2 : W31.cell? ⟨w.heap.size, 2, none⟩ = some (.int .u64 0) := blk_cell h2' 2
                have f2 := blk_frozen h2' 2
                have d3 : W31.cell? ⟨w.heap.size, 3, none⟩ = some (.slice none 0 0) := blk_cell h2' 3
                have f3 := blk_frozen h2' 3
                have d4 : W31.cell? ⟨w.heap.size, 4, none⟩ = some (.slice none 0 0) := blk_cell h2' 4
                have f4 := blk_frozen h2' 4
                have H2 := Hush.mk h2'
                clear h2' h5' hb31 U
                obtain ⟨cv, hcv⟩ : ∃ c, c = edit_Edit_Check.val l lg := ⟨_, rfl⟩
                rw [← hcv]
                have HV := Hush.mk hcv
                clear hcv
                by_cases hv : cv = 0
                · have hv1 : (cv == 0) = true := by simpa using hv
                  have hv2 : (cv != 0) = false := by simpa using hv
                  have HR : Hush (R = (n1, n2, n3, l, lg, 0)) := ⟨by rw [← HA.out, edit_Parse.fin, if_pos HZ.out, ← HV.out, if_pos hv]⟩
                  clear hv
                  go_wp2
                  obtain rfl := HR.out
                  exact bodyPost_ret (v := .tuple #[.agg #[.int .u64 n1, .int .u64 n2, .int .u64 n3, .slice A3 l.length c3, .slice A4 lg.length c4], .int .i64 0]) (by simp [results, Tryd.results18, go_sem, d0, d1, d2, d3, d4]) rfl
                    ⟨_, _, rfl, R_of_own (d := k107) edit_cells107 (fun _ => rfl) (fun ok x => k107_mkM _ _ ok x) (own_set5 _ _ _ _ _ o3'.out ⟨_, H2.out⟩ (by decide)), R_of_own (d := k111) edit_cells111 (fun _ => rfl) (fun ok x => k111_mkM _ _ ok x) (own_set5 _ _ _ _ _ o4'.out ⟨_, H2.out⟩ (by decide)), below_set5 _ _ _ _ _ bel'.out (Nat.le_refl _)⟩
                · have hv1 : (cv == 0) = false := by simpa using hv
                  have hv2 : (cv != 0) = true := by simpa using hv
                  have HR : Hush (R = (0, 0, 0, [], [], cv)) := ⟨by rw [← HA.out, edit_Parse.fin, if_pos HZ.out, ← HV.out, if_neg hv]⟩
                  clear hv
                  go_wp2
                  obtain rfl := HR.out
                  exact bodyPost_ret (v := .tuple #[.agg #[.int .u64 0, .int .u64 0, .int .u64 0, .slice none 0 0, .slice none 0 0], .int .i64 cv]) (by simp [results, Tryd.results18, go_sem, d0, d1, d2, d3, d4]) rfl ⟨_, _, rfl, Kd.R_nil _ _ _ _ _, Kd.R_nil _ _ _ _ _, below_set5 _ _ _ _ _ bel'.out (Nat.le_refl _)⟩
              · have hz1 : (z == 0) = false := by simpa using hz
                have hz2 : (z != 0) = true := by simpa using hz
                have HR : Hush (R = (0, 0, 0, [], [], z)) := ⟨by rw [← HA.out, edit_Parse.fin, if_neg hz]⟩
                clear hz
                have d0 : W30.cell? ⟨w.heap.size, 0, none⟩ = some (.int .u64 0) := blk_cell U.h2 0
                have f0 := blk_frozen U.h2 0
                have d1 : W30.cell? ⟨w.heap.size, 1, none⟩ = some (.int .u64 0) := blk_cell U.h2 1
                have f1 := blk_frozen U.h2 1
                have d2 : W30.cell? ⟨w.heap.size, 2, none⟩ = some (.int .u64 0) := blk_cell U.h2 2
                have f2 := blk_frozen U.h2 2
                have d3 : W30.cell? ⟨w.heap.size, 3, none⟩ = some (.slice none 0 0) := blk_cell U.h2 3
                have f3 := blk_frozen U.h2 3
                have d4 : W30.cell? ⟨w.heap.size, 4, none⟩ = some (.slice none 0 0) := blk_cell U.h2 4
                have f4 := blk_frozen U.h2 4
                have HU := Hush.mk U
                clear U
                go_wp2
                obtain rfl := HR.out
                exact bodyPost_ret (v := .tuple #[.agg #[.int .u64 0, .int .u64 0, .int .u64 0, .slice none 0 0, .slice none 0 0], .int .i64 z]) (by simp [results, Tryd.results18, go_sem, d0, d1, d2, d3, d4]) rfl ⟨_, _, rfl, Kd.R_nil _ _ _ _ _, Kd.R_nil _ _ _ _ _, below_set5 _ _ _ _ _ HU.out.bel (Nat.le_refl _)⟩
            · clear hgo
              go_wp2_with fail
              refine (varint_Reader_End.calls g _ _ _ _ _ _ _ w _ hT.rd hT.bel A.a8).mono ?_
              rintro e_ W30 ⟨rfl, hi, hb, hk⟩
              have U := hT.call hi hb hk
              have HA := Hush.mk A.hr
              clear hT hi hb hk
              have R3 := R_of_own (d := k107) edit_cells107 (fun _ => rfl) (fun ok x => k107_mkM _ _ ok x) U.o3
              have R4 := R_of_own (d := k111) edit_cells111 (fun _ => rfl) (fun ok x => k111_mkM _ _ ok x) U.o4
              obtain ⟨A3, c3, rfl, _, hC3⟩ := Kd.R_reads R3
              obtain ⟨A4, c4, rfl, _, hC4⟩ := Kd.R_reads R4
              have C3 := Hush.mk hC3
              have C4 := Hush.mk hC4
              have R3 := Hush.mk R3
              have R4 := Hush.mk R4
              have x0 : W30.cell? ⟨b5, 0, none⟩ = some (.int .u64 n1) := blk_cell U.h5 0
              have x1 : W30.cell? ⟨b5, 1, none⟩ = some (.int .u64 n2) := blk_cell U.h5 1
              have x2 : W30.cell? ⟨b5, 2, none⟩ = some (.int .u64 n3) := blk_cell U.h5 2
              have x3 : W30.cell? ⟨b5, 3, none⟩ = some (.slice A3 l.length c3) := blk_cell U.h5 3
              have x4 : W30.cell? ⟨b5, 4, none⟩ = some (.slice A4 lg.length c4) := blk_cell U.h5 4
              clear hC3 hC4
              by_cases hz : z = 0
              · have hz1 : (z == 0) = true := by simpa using hz
                have HZ := Hush.mk hz
                clear hz
                go_wp2_with fail
                refine (edit_Edit_Check.walk n1 n2 n3 A3 c3 l A4 c4 lg W30 C3.out C4.out).mono ?_
                rintro e_ W31 ⟨rfl, hb31⟩
                have h2' := (hb31.block _ (heap_lt U.h2)).trans U.h2
                have h5' := (hb31.block _ (heap_lt U.h5)).trans U.h5
                have o3' := Hush.mk (own_move U.o3 (fun k hk => by obtain ⟨cs, hc⟩ := own_type U.o3 hk; exact hb31.block _ (heap_lt hc)))
                have o4' := Hush.mk (own_move U.o4 (fun k hk => by obtain ⟨cs, hc⟩ := own_type U.o4 hk; exact hb31.block _ (heap_lt hc)))
                have bel' := Hush.mk (U.bel.trans (hb31.mono U.bel.size))
                have x0 : W31.cell? ⟨b5, 0, none⟩ = some (.int .u64 n1) := blk_cell h5' 0
                have x1 : W31.cell? ⟨b5, 1, none⟩ = some (.int .u64 n2) := blk_cell h5' 1
                have x2 : W31.cell? ⟨b5, 2, none⟩ = some (.int .u64 n3) := blk_cell h5' 2
                have x3 : W31.cell? ⟨b5, 3, none⟩ = some (.slice A3 l.length c3) := blk_cell h5' 3
                have x4 : W31.cell? ⟨b5, 4, none⟩ = some (.slice A4 lg.length c4) := blk_cell h5' 4
                have d0 : W31.cell? ⟨w.heap.size, 0, none⟩ = some (.int .u64 0) := blk_cell h2' 0
                have f0 := blk_frozen h2' 0
                have d1 : W31.cell? ⟨w.heap.size, 1, none⟩ = some (.int .u64 0) := blk_cell h2' 1
                have f1 := blk_frozen h2' 1
                have d2 : W31.cell? ⟨w.heap.size, 2, none⟩ = some (.int .u64 0) := blk_cell h2' 2
                have f2 := blk_frozen h2' 2
                have d3 : W31.cell? ⟨w.heap.size, 3, none⟩ = some (.slice none 0 0) := blk_cell h2' 3
                have f3 := blk_frozen h2' 3
                have d4 : W31.cell? ⟨w.heap.size, 4, none⟩ = some (.slice none 0 0) := blk_cell h2' 4
                have f4 := blk_frozen h2' 4
                have H2 := Hush.mk h2'
                clear h2' h5' hb31 U
                obtain ⟨cv, hcv⟩ : ∃ c, c = edit_Edit_Check.val l lg := ⟨_, rfl⟩
                rw [← hcv]
                have HV := Hush.mk hcv
                clear hcv
                by_cases hv : cv = 0
                · have hv1 : (cv == 0) = true := by simpa using hv
                  have hv2 : (cv != 0) = false := by simpa using hv
                  have HR : Hush (R = (n1, n2, n3, l, lg, 0)) := ⟨by rw [← HA.out, edit_Parse.fin, if_pos HZ.out, ← HV.out, if_pos hv]⟩
                  clear hv
                  go_wp2
                  obtain rfl := HR.out
                  exact bodyPost_ret (v := .tuple #[.agg #[.int .u64 n1, .int .u64 n2, .int .u64 n3, .slice A3 l.length c3, .slice A4 lg.length c4], .int .i64 0]) (by simp [results, Tryd.results18, go_sem, d0, d1, d2, d3, d4]) rfl
                    ⟨_, _, rfl, R_of_own (d := k107) edit_cells107 (fun _ => rfl) (fun ok x => k107_mkM _ _ ok x) (own_set5 _ _ _ _ _ o3'.out ⟨_, H2.out⟩ (by decide)), R_of_own (d := k111) edit_cells111 (fun _ => rfl) (fun ok x => k111_mkM _ _ ok x) (own_set5 _ _ _ _ _ o4'.out ⟨_, H2.out⟩ (by decide)), below_set5 _ _ _ _ _ bel'.out (Nat.le_refl _)⟩
                · have hv1 : (cv == 0) = false := by simpa using hv
                  have hv2 : (cv != 0) = true := by simpa using hv
                  have HR : Hush (R = (0, 0, 0, [], [], cv)) := ⟨by rw [← HA.out, edit_Parse.fin, if_pos HZ.out, ← HV.out, if_neg hv]⟩
                  clear hv
                  go_wp2
                  obtain rfl := HR.out
                  exact bodyPost_ret (v := .tuple #[.agg #[.int .u64 0, .int .u64 0, .int .u64 0, .slice none 0 0, .slice none 0 0], .int .i64 cv]) (by simp [results, Tryd.results18, go_sem, d0, d1, d2, d3, d4]) rfl ⟨_, _, rfl, Kd.R_nil _ _ _ _ _, Kd.R_nil _ _ _ _ _, below_set5 _ _ _ _ _ bel'.out (Nat.le_refl _)⟩
              · have hz1 : (z == 0) = false := by simpa using hz
                have hz2 : (z != 0) = true := by simpa using hz
                have HR : Hush (R = (0, 0, 0, [], [], z)) := ⟨by rw [← HA.out, edit_Parse.fin, if_neg hz]⟩
                clear hz
                have d0 : W30.cell? ⟨w.heap.size, 0, none⟩ = some (.int .u64 0) := blk_cell U.h2 0
                have f0 := blk_frozen U.h2 0
                have d1 : W30.cell? ⟨w.heap.size, 1, none⟩ = some (.int .u64 0) := blk_cell U.h2 1
                have f1 := blk_frozen U.h2 1
                have d2 : W30.cell? ⟨w.heap.size, 2, none⟩ = some (.int .u64 0) := blk_cell U.h2 2
                have f2 := blk_frozen U.h2 2
                have d3 : W30.cell? ⟨w.heap.size, 3, none⟩ = some (.slice none 0 0) := blk_cell U.h2 3
                have f3 := blk_frozen U.h2 3
                have d4 : W30.cell? ⟨w.heap.size, 4, none⟩ = some (.slice none 0 0) := blk_cell U.h2 4
                have f4 := blk_frozen U.h2 4
                have HU := Hush.mk U
                clear U
                go_wp2
                obtain rfl := HR.out
                exact bodyPost_ret (v := .tuple #[.agg #[.int .u64 0, .int .u64 0, .int .u64 0, .slice none 0 0, .slice none 0 0], .int .i64 z]) (by simp [results, Tryd.results18, go_sem, d0, d1, d2, d3, d4]) rfl ⟨_, _, rfl, Kd.R_nil _ _ _ _ _, Kd.R_nil _ _ _ _ _, below_set5 _ _ _ _ _ HU.out.bel (Nat.le_refl _)⟩
theorem edit_Parse.calls (a0 : ByteArray) (r1 : Int) (r2 : Int) (r3 : Int) (r4 : List (S107)) (r5 : List (S111)) (r6 : Int) (w : World) (h : edit_Parse.f a0 = some (r1, r2, r3, r4, r5, r6)) :
    Calls Tryd.prog 18 #[.string a0] w fun e w' => ∃ v3_ v4_ : Value, e = .returned (.tuple #[.agg #[.int .u64 r1, .int .u64 r2, .int .u64 r3, v3_, v4_], .int .i64 r6]) ∧ Kd.R k107 107 w' w.heap.size (fun _ => True) v3_ r4 ∧ Kd.R k111 111 w' w.heap.size (fun _ => True) v4_ r5 ∧ Below w.heap.size w w' := edit_Parse.walk a0 _ w h

end Go.Proofs.YteilnbnnhocciaaDoor.K
