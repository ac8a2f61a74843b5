/- EditBytes is true for every input: the card, tied (part 3 of 7; packed by program out of the texts named below) -/
import Derived.Test.YteilnbnnhocciaaDoorXA2

/-! K23 -/
namespace Go.Proofs.YteilnbnnhocciaaDoor.K
open Go.RowKit Go.Proofs.YteilnbnnhocciaaDoorW.PrintWords Go.Proofs.YteilnbnnhocciaaDoorW.PrintLast Go.Proofs.YteilnbnnhocciaaDoorW.PrintMore Go.Proofs.YteilnbnnhocciaaDoorM
attribute [local go_sem] max2_int min2_int max_two min_two max_three min_three max_four min_four
set_option linter.unusedVariables false
set_option linter.unusedSimpArgs false
def edit_cells107 (a : S107) : List Value := [.int .i64 a.f0, .int .u64 a.f1.f0, .int .u64 a.f1.f1, .int .u64 a.f1.f2, .string a.f1.f3, .string a.f1.f4]
def edit_cells111 (a : S111) : List Value := [.int .i64 a.f0, .int .u64 a.f1]
def edit_Parse.come (s : ByteArray) (p e : Int) : Option (S107 × ByteArray × Int × Int) :=
  (edit_levelOf.f s p e).bind fun t0 => (varint_Reader_Num.f t0.2.1 t0.2.2.1 t0.2.2.2).bind fun t1 => (varint_Reader_Num.f t1.2.1 t1.2.2.1 t1.2.2.2).bind fun t2 => (varint_Reader_Num.f t2.2.1 t2.2.2.1 t2.2.2.2).bind fun t3 =>
    (varint_Reader_Text.f t3.2.1 t3.2.2.1 t3.2.2.2 200).bind fun t4 => (varint_Reader_Text.f t4.2.1 t4.2.2.1 t4.2.2.2 200).bind fun t5 => some (⟨t0.1, ⟨t1.1, t2.1, t3.1, t4.1, t5.1⟩⟩, t5.2.1, t5.2.2.1, t5.2.2.2)
def edit_Parse.gone (s : ByteArray) (p e : Int) : Option (S111 × ByteArray × Int × Int) :=
  (edit_levelOf.f s p e).bind fun t0 => (varint_Reader_Num.f t0.2.1 t0.2.2.1 t0.2.2.2).bind fun t1 => some (⟨t0.1, t1.1⟩, t1.2.1, t1.2.2.1, t1.2.2.2)
def edit_Parse.comes : Nat → ByteArray → Int → Int → List S107 → Option (List S107 × ByteArray × Int × Int)
  | 0, s, p, e, acc => some (acc, s, p, e)
  | m + 1, s, p, e, acc => if e = 0 then (edit_Parse.come s p e).bind fun t => if acc.length < 2199023255552 then edit_Parse.comes m t.2.1 t.2.2.1 t.2.2.2 (acc ++ [t.1]) else none else some (acc, s, p, e)
def edit_Parse.gones : Nat → ByteArray → Int → Int → List S111 → Option (List S111 × ByteArray × Int × Int)
  | 0, s, p, e, acc => some (acc, s, p, e)
  | m + 1, s, p, e, acc => if e = 0 then (edit_Parse.gone s p e).bind fun t => if acc.length < 8796093022208 then edit_Parse.gones m t.2.1 t.2.2.1 t.2.2.2 (acc ++ [t.1]) else none else some (acc, s, p, e)
def edit_Parse.fin (lg nx sq : Int) (c : List S107) (g : List S111) (err : Int) : Int × Int × Int × List S107 × List S111 × Int :=
  if err = 0 then (if edit_Edit_Check.val c g = 0 then (lg, nx, sq, c, g, 0) else (0, 0, 0, [], [], edit_Edit_Check.val c g)) else (0, 0, 0, [], [], err)
def edit_Parse.f (a0 : ByteArray) : Option (Int × Int × Int × (List (S107)) × (List (S111)) × Int) :=
  (varint_Reader_Num.f a0 0 0).bind fun t1 => (varint_Reader_Num.f t1.2.1 t1.2.2.1 t1.2.2.2).bind fun t2 => (varint_Reader_Num.f t2.2.1 t2.2.2.1 t2.2.2.2).bind fun t3 =>
    (edit_count.f t3.2.1 t3.2.2.1 t3.2.2.2).bind fun n => if 0 ≤ n.1 ∧ n.1 ≤ 18446744073709551615 then (edit_Parse.comes n.1.toNat n.2.1 n.2.2.1 n.2.2.2 []).bind fun c =>
      (edit_count.f c.2.1 c.2.2.1 c.2.2.2).bind fun n2 => if 0 ≤ n2.1 ∧ n2.1 ≤ 18446744073709551615 then (edit_Parse.gones n2.1.toNat n2.2.1 n2.2.2.1 n2.2.2.2 []).bind fun g =>
        (varint_Reader_End.f g.2.1 g.2.2.1 g.2.2.2).bind fun z => some (edit_Parse.fin t1.1 t2.1 t3.1 c.1 g.1 z.1) else none else none
theorem own_type {w : World} {base e size n : Nat} {v : Value} {xs : List Value} (h : w.ownsRow base e size v n xs) {k : Nat} (hk : v.ownBlock = some k) : ∃ cs, w.heap[k]? = some (.cells cs e (0, 0)) := by
  rcases h.2 with ⟨rfl, _⟩ | ⟨g, cap, cur, rfl, _, hg, _⟩
  · simp [Value.ownBlock] at hk
  · simp [Value.ownBlock] at hk
    subst hk
    exact ⟨cur, hg⟩
theorem heap_lt {w : World} {b : Nat} {o : Obj} (h : w.heap[b]? = some o) : b < w.heap.size := (Array.getElem?_eq_some_iff.1 h).1
theorem blk_ne {w : World} {a b : Nat} {cs cs' : Array Value} {t t' : TypeId} {fr fr' : Nat × Nat} (h : w.heap[a]? = some (.cells cs t fr)) (h' : w.heap[b]? = some (.cells cs' t' fr')) (hne : t ≠ t') : a ≠ b := by
  rintro rfl
  rw [h] at h'
  injection h' with h'
  injection h' with _ ht _
  exact hne ht
theorem own_kept_keep {w W : World} {g base e size n t : Nat} {v : Value} {xs : List Value} {cs : Array Value} (h : w.ownsRow base e size v n xs) (hk : KeepBut w W g none) (hg : w.heap[g]? = some (.cells cs t (0, 0))) (hne : e ≠ t) : W.ownsRow base e size v n xs := by
  refine own_move h fun k hk' => ?_
  obtain ⟨cs', hc⟩ := own_type h hk'
  exact hk.2 k (heap_lt hc) (blk_ne hc hg hne) (by simp)
theorem blk_kept_keep {w W : World} {g b t t' : Nat} {cs cs' : Array Value} (h : w.heap[b]? = some (.cells cs t (0, 0))) (hk : KeepBut w W g none) (hg : w.heap[g]? = some (.cells cs' t' (0, 0))) (hne : t ≠ t') : W.heap[b]? = some (.cells cs t (0, 0)) :=
  (hk.2 b (heap_lt h) (blk_ne h hg hne) (by simp)).trans h
def edit_zero26 : Array Value := #[.int .u64 0, .int .u64 0, .int .u64 0, .slice none 0 0, .slice none 0 0]
structure edit_Parse.St (w : World) (g b2 b5 : Nat) (s : ByteArray) (p e : Int) (C5 : Array Value) (v3 : Value) (l3 : List S107) (v4 : Value) (l4 : List S111) (W : World) : Prop where
  rd : IsS171 w W g s p e
  h2 : W.heap[b2]? = some (.cells edit_zero26 26 (0, 0))
  h5 : W.heap[b5]? = some (.cells C5 26 (0, 0))
  o3 : W.ownsRow w.heap.size 107 6 v3 l3.length (l3.flatMap edit_cells107)
  o4 : W.ownsRow w.heap.size 111 2 v4 l4.length (l4.flatMap edit_cells111)
  bel : Below w.heap.size w W
  ge2 : w.heap.size ≤ b2
  ge5 : w.heap.size ≤ b5
  ne25 : b2 ≠ b5
section
variable {w W W' : World} {g b2 b5 : Nat} {s s' : ByteArray} {p e p' e' : Int} {C5 : Array Value} {v3 v4 : Value} {l3 : List S107} {l4 : List S111}
theorem edit_Parse.St.call (h : edit_Parse.St w g b2 b5 s p e C5 v3 l3 v4 l4 W) (hi : IsS171 w W' g s' p' e') (hb : Below w.heap.size w W') (hk : KeepBut W W' g none) : edit_Parse.St w g b2 b5 s' p' e' C5 v3 l3 v4 l4 W' :=
  ⟨hi, blk_kept_keep h.h2 hk h.rd.1 (by decide), blk_kept_keep h.h5 hk h.rd.1 (by decide), own_kept_keep h.o3 hk h.rd.1 (by decide), own_kept_keep h.o4 hk h.rd.1 (by decide), hb, h.ge2, h.ge5, h.ne25⟩
theorem edit_Parse.St.alloc (h : edit_Parse.St w g b2 b5 s p e C5 v3 l3 v4 l4 W) (o : Obj) : edit_Parse.St w g b2 b5 s p e C5 v3 l3 v4 l4 (W.alloc o) :=
  ⟨h.rd.alloc o, blk_alloc h.h2 o, blk_alloc h.h5 o, h.o3.alloc o, h.o4.alloc o, below_alloc h.bel o, h.ge2, h.ge5, h.ne25⟩
theorem edit_Parse.St.drew (h : edit_Parse.St w g b2 b5 s p e C5 v3 l3 v4 l4 W) : edit_Parse.St w g b2 b5 s p e C5 v3 l3 v4 l4 W.drew :=
  ⟨h.rd.drew, h.h2, h.h5, h.o3.drew, h.o4.drew, below_drew1 h.bel, h.ge2, h.ge5, h.ne25⟩
theorem edit_Parse.St.far (h : edit_Parse.St w g b2 b5 s p e C5 v3 l3 v4 l4 W) {b i : Nat} (u : Value) (hb : w.heap.size ≤ b) (hg : g ≠ b) (h2 : b2 ≠ b) (h5 : b5 ≠ b) (h3 : v3.ownBlock ≠ some b) (h4 : v4.ownBlock ≠ some b) : edit_Parse.St w g b2 b5 s p e C5 v3 l3 v4 l4 (W.setCell ⟨b, i, none⟩ u) :=
  ⟨h.rd.far hg u, (Below.heap_setCell W _ u b2 h2).trans h.h2, (Below.heap_setCell W _ u b5 h5).trans h.h5, own_move h.o3 (fun k hk => Below.heap_setCell W _ u k (fun e => h3 (by rw [hk]; exact congrArg some e))), own_move h.o4 (fun k hk => Below.heap_setCell W _ u k (fun e => h4 (by rw [hk]; exact congrArg some e))), below_set h.bel hb, h.ge2, h.ge5, h.ne25⟩
theorem edit_Parse.St.set5 (h : edit_Parse.St w g b2 b5 s p e C5 v3 l3 v4 l4 W) (i : Nat) (u : Value) : edit_Parse.St w g b2 b5 s p e (C5.setIfInBounds i u) v3 l3 v4 l4 (W.setCell ⟨b5, i, none⟩ u) := by
  have hg : g ≠ b5 := blk_ne h.rd.1 h.h5 (by decide)
  refine ⟨h.rd.far hg u, (Below.heap_setCell W _ u b2 h.ne25).trans h.h2, ?_, own_move h.o3 (fun k hk => Below.heap_setCell W _ u k ?_), own_move h.o4 (fun k hk => Below.heap_setCell W _ u k ?_), below_set h.bel h.ge5, h.ge2, h.ge5, h.ne25⟩
  · simp [World.setCell, Array.getElem?_modify, h.h5]
  · obtain ⟨cs, hc⟩ := own_type h.o3 hk
    exact blk_ne hc h.h5 (by decide)
  · obtain ⟨cs, hc⟩ := own_type h.o4 hk
    exact blk_ne hc h.h5 (by decide)
theorem edit_Parse.St.push3 (h : edit_Parse.St w g b2 b5 s p e C5 v3 l3 v4 l4 W) {a : S107} {v' : Value} (ho : W'.ownsRow w.heap.size 107 6 v' (l3.length + 1) (l3.flatMap edit_cells107 ++ edit_cells107 a)) (hg : W.grownBy W' v3.ownBlock) : edit_Parse.St w g b2 b5 s p e C5 v' (l3 ++ [a]) v4 l4 W' := by
  have hn : ∀ {b t : Nat} {cs : Array Value}, W.heap[b]? = some (.cells cs t (0, 0)) → t ≠ 107 → some b ≠ v3.ownBlock := by
    intro b t cs hb ht e
    obtain ⟨cs', hc⟩ := own_type h.o3 e.symm
    exact blk_ne hb hc ht rfl
  have hb : ∀ {b t : Nat} {cs : Array Value}, W.heap[b]? = some (.cells cs t (0, 0)) → t ≠ 107 → W'.heap[b]? = some (.cells cs t (0, 0)) := fun hb ht => (hg.block _ (heap_lt hb) (hn hb ht)).trans hb
  refine ⟨⟨hb h.rd.1 (by decide), h.rd.2⟩, hb h.h2 (by decide), hb h.h5 (by decide), by simpa using ho, own_move h.o4 (fun k hk => ?_), h.bel.grown hg h.bel.size (fun k hk => (h.o3.lt k hk).1), h.ge2, h.ge5, h.ne25⟩
  obtain ⟨cs, hc⟩ := own_type h.o4 hk
  exact hg.block _ (heap_lt hc) (hn hc (by decide))
theorem edit_Parse.St.push4 (h : edit_Parse.St w g b2 b5 s p e C5 v3 l3 v4 l4 W) {a : S111} {v' : Value} (ho : W'.ownsRow w.heap.size 111 2 v' (l4.length + 1) (l4.flatMap edit_cells111 ++ edit_cells111 a)) (hg : W.grownBy W' v4.ownBlock) : edit_Parse.St w g b2 b5 s p e C5 v3 l3 v' (l4 ++ [a]) W' := by
  have hn : ∀ {b t : Nat} {cs : Array Value}, W.heap[b]? = some (.cells cs t (0, 0)) → t ≠ 111 → some b ≠ v4.ownBlock := by
    intro b t cs hb ht e
    obtain ⟨cs', hc⟩ := own_type h.o4 e.symm
    exact blk_ne hb hc ht rfl
  have hb : ∀ {b t : Nat} {cs : Array Value}, W.heap[b]? = some (.cells cs t (0, 0)) → t ≠ 111 → W'.heap[b]? = some (.cells cs t (0, 0)) := fun hb ht => (hg.block _ (heap_lt hb) (hn hb ht)).trans hb
  refine ⟨⟨hb h.rd.1 (by decide), h.rd.2⟩, hb h.h2 (by decide), hb h.h5 (by decide), own_move h.o3 (fun k hk => ?_), by simpa using ho, h.bel.grown hg h.bel.size (fun k hk => (h.o4.lt k hk).1), h.ge2, h.ge5, h.ne25⟩
  obtain ⟨cs, hc⟩ := own_type h.o3 hk
  exact hg.block _ (heap_lt hc) (hn hc (by decide))
end
theorem cells_new (w : World) (cs : List Value) (e : TypeId) : ∀ j u, cs[j]? = some u → (w.alloc (.cells cs.toArray e)).cell? ((⟨w.heap.size, 0, none⟩ : Addr).add j) = some u := by
  intro j u hj
  have : (⟨w.heap.size, 0, none⟩ : Addr).add j = ⟨w.heap.size, j, none⟩ := by unfold Addr.add; split <;> simp_all
  rw [this, World.cell?_alloc_at _ _ _ _ rfl]
  simpa using hj
theorem R_of_own {α : Type} {d : Kd α} {e base : Nat} {w : World} {v : Value} {l : List α} (f : α → List Value) (hf : ∀ x, (f x).length = d.sz) (hM : ∀ ok x, d.M w base ok x (f x)) (h : w.ownsRow base e d.sz v l.length (l.flatMap f)) : Kd.R d e w base (fun _ => True) v l := by
  refine ⟨fun _ _ => trivial, _, h, ?_⟩
  clear h
  have : ∀ (ok : Nat → Prop), Reps (d.M w base ok) d.sz l (l.flatMap f) := by
    intro ok
    generalize hm : l.length = m
    induction m generalizing l with
    | zero => obtain rfl := List.eq_nil_of_length_eq_zero hm; exact Reps.none _ _
    | succ m ih =>
      obtain ⟨l', x, rfl⟩ : ∃ l' x, l = l' ++ [x] := by
        refine ⟨l.dropLast, l.getLast (by intro h; simp [h] at hm), ?_⟩
        exact (List.dropLast_concat_getLast _).symm
      have hl : l'.length = m := by simpa using hm
      simpa using Reps.snoc (ih hl) (hM ok x) (hf x)
  exact this _
theorem edit_Parse.comes_stop {m : Nat} {s : ByteArray} {p e : Int} {l : List S107} {C : List S107 × ByteArray × Int × Int} (h : edit_Parse.comes m s p e l = some C) (hz : m = 0 ∨ e ≠ 0) : (l, s, p, e) = C := by
  cases m with
  | zero => exact Option.some.inj h
  | succ m =>
    rcases hz with hz | hz
    · cases hz
    · rw [edit_Parse.comes, if_neg hz] at h; exact Option.some.inj h
theorem edit_Parse.gones_stop {m : Nat} {s : ByteArray} {p e : Int} {l : List S111} {C : List S111 × ByteArray × Int × Int} (h : edit_Parse.gones m s p e l = some C) (hz : m = 0 ∨ e ≠ 0) : (l, s, p, e) = C := by
  cases m with
  | zero => exact Option.some.inj h
  | succ m =>
    rcases hz with hz | hz
    · cases hz
    · rw [edit_Parse.gones, if_neg hz] at h; exact Option.some.inj h
structure edit_Parse.Come (s : ByteArray) (p : Int) (a : S107) (s1 s2 s3 s4 s5 s6 : ByteArray) (p1 p2 p3 p4 p5 p6 e1 e2 e3 e4 e5 e6 : Int) : Prop where
  c1 : edit_levelOf.f s p 0 = some (a.f0, s1, p1, e1)
  c2 : varint_Reader_Num.f s1 p1 e1 = some (a.f1.f0, s2, p2, e2)
  c3 : varint_Reader_Num.f s2 p2 e2 = some (a.f1.f1, s3, p3, e3)
  c4 : varint_Reader_Num.f s3 p3 e3 = some (a.f1.f2, s4, p4, e4)
  c5 : varint_Reader_Text.f s4 p4 e4 200 = some (a.f1.f3, s5, p5, e5)
  c6 : varint_Reader_Text.f s5 p5 e5 200 = some (a.f1.f4, s6, p6, e6)
theorem edit_Parse.comes_go {m : Nat} {s : ByteArray} {p : Int} {l : List S107} {C : List S107 × ByteArray × Int × Int} (h : edit_Parse.comes (m + 1) s p 0 l = some C) :
    l.length < 2199023255552 ∧ ∃ a s1 s2 s3 s4 s5 s6 p1 p2 p3 p4 p5 p6 e1 e2 e3 e4 e5 e6, edit_Parse.Come s p a s1 s2 s3 s4 s5 s6 p1 p2 p3 p4 p5 p6 e1 e2 e3 e4 e5 e6 ∧ edit_Parse.comes m s6 p6 e6 (l ++ [a]) = some C := by
  rw [edit_Parse.comes, if_pos rfl] at h
  obtain ⟨⟨a, s6, p6, e6⟩, hc, h⟩ := Option.bind_eq_some_iff.mp h
  dsimp only at h
  by_cases hl : l.length < 2199023255552
  · rw [if_pos hl] at h
    refine ⟨hl, ?_⟩
    obtain ⟨⟨a0, s1, p1, e1⟩, h1, hc⟩ := Option.bind_eq_some_iff.mp hc
    obtain ⟨⟨a1, s2, p2, e2⟩, h2, hc⟩ := Option.bind_eq_some_iff.mp hc
    obtain ⟨⟨a2, s3, p3, e3⟩, h3, hc⟩ := Option.bind_eq_some_iff.mp hc
    obtain ⟨⟨a3, s4, p4, e4⟩, h4, hc⟩ := Option.bind_eq_some_iff.mp hc
    obtain ⟨⟨a4, s5, p5, e5⟩, h5, hc⟩ := Option.bind_eq_some_iff.mp hc
    obtain ⟨⟨a5, s7, p7, e7⟩, h6, hc⟩ := Option.bind_eq_some_iff.mp hc
    dsimp only at h1 h2 h3 h4 h5 h6 hc
    simp only [Option.some.injEq, Prod.mk.injEq] at hc
    obtain ⟨rfl, rfl, rfl, rfl⟩ := hc
    exact ⟨_, _, _, _, _, _, _, _, _, _, _, _, _, _, _, _, _, _, _, ⟨h1, h2, h3, h4, h5, h6⟩, h⟩
  · rw [if_neg hl] at h; cases h
theorem edit_Parse.gones_go {m : Nat} {s : ByteArray} {p : Int} {l : List S111} {C : List S111 × ByteArray × Int × Int} (h : edit_Parse.gones (m + 1) s p 0 l = some C) :
    l.length < 8796093022208 ∧ ∃ a s1 s2 p1 p2 e1 e2, (edit_levelOf.f s p 0 = some (a.f0, s1, p1, e1) ∧ varint_Reader_Num.f s1 p1 e1 = some (a.f1, s2, p2, e2)) ∧ edit_Parse.gones m s2 p2 e2 (l ++ [a]) = some C := by
  rw [edit_Parse.gones, if_pos rfl] at h
  obtain ⟨⟨a, s6, p6, e6⟩, hc, h⟩ := Option.bind_eq_some_iff.mp h
  dsimp only at h
  by_cases hl : l.length < 8796093022208
  · rw [if_pos hl] at h
    refine ⟨hl, ?_⟩
    obtain ⟨⟨a0, s1, p1, e1⟩, h1, hc⟩ := Option.bind_eq_some_iff.mp hc
    obtain ⟨⟨a1, s2, p2, e2⟩, h2, hc⟩ := Option.bind_eq_some_iff.mp hc
    dsimp only at h1 h2 hc
    simp only [Option.some.injEq, Prod.mk.injEq] at hc
    obtain ⟨rfl, rfl, rfl, rfl⟩ := hc
    exact ⟨_, _, _, _, _, _, _, ⟨h1, h2⟩, h⟩
  · rw [if_neg hl] at h; cases h
theorem own_set2 {w : World} {base e size n t b i : Nat} {v : Value} {xs : List Value} (u : Value) (h : w.ownsRow base e size v n xs) (hb : ∃ cs, w.heap[b]? = some (.cells cs t (0, 0))) (hne : e ≠ t) : (w.setCell ⟨b, i, none⟩ u).ownsRow base e size v n xs ∧ ∃ cs, (w.setCell ⟨b, i, none⟩ u).heap[b]? = some (.cells cs t (0, 0)) := by
  obtain ⟨cs, hb⟩ := hb
  refine ⟨own_move h (fun k hk => ?_), cs.setIfInBounds i u, ?_⟩
  · obtain ⟨cs', hc⟩ := own_type h hk
    exact Below.heap_setCell w _ u k (blk_ne hc hb hne)
  · simp [World.setCell, Array.getElem?_modify, hb]
theorem own_set5 {w : World} {base e size n t b : Nat} {v : Value} {xs : List Value} (u0 u1 u2 u3 u4 : Value) (h : w.ownsRow base e size v n xs) (hb : ∃ cs, w.heap[b]? = some (.cells cs t (0, 0))) (hne : e ≠ t) : (((((w.setCell ⟨b, 0, none⟩ u0).setCell ⟨b, 1, none⟩ u1).setCell ⟨b, 2, none⟩ u2).setCell ⟨b, 3, none⟩ u3).setCell ⟨b, 4, none⟩ u4).ownsRow base e size v n xs := by
  obtain ⟨h, hb⟩ := own_set2 (i := 0) u0 h hb hne
  obtain ⟨h, hb⟩ := own_set2 (i := 1) u1 h hb hne
  obtain ⟨h, hb⟩ := own_set2 (i := 2) u2 h hb hne
  obtain ⟨h, hb⟩ := own_set2 (i := 3) u3 h hb hne
  exact (own_set2 (i := 4) u4 h hb hne).1
theorem below_set5 {B b : Nat} {w0 w : World} (u0 u1 u2 u3 u4 : Value) (h : Below B w0 w) (hb : B ≤ b) : Below B w0 (((((w.setCell ⟨b, 0, none⟩ u0).setCell ⟨b, 1, none⟩ u1).setCell ⟨b, 2, none⟩ u2).setCell ⟨b, 3, none⟩ u3).setCell ⟨b, 4, none⟩ u4) :=
  ((((h.setCell (p := ⟨b, 0, none⟩) hb u0).setCell (p := ⟨b, 1, none⟩) hb u1).setCell (p := ⟨b, 2, none⟩) hb u2).setCell (p := ⟨b, 3, none⟩) hb u3).setCell (p := ⟨b, 4, none⟩) hb u4
def edit_Parse.Post (w : World) (R : Int × Int × Int × List S107 × List S111 × Int) (e : Ending) (w' : World) : Prop :=
  ∃ v3_ v4_ : Value, e = .returned (.tuple #[.agg #[.int .u64 R.1, .int .u64 R.2.1, .int .u64 R.2.2.1, v3_, v4_], .int .i64 R.2.2.2.2.2]) ∧ Kd.R k107 107 w' w.heap.size (fun _ => True) v3_ R.2.2.2.1 ∧ Kd.R k111 111 w' w.heap.size (fun _ => True) v4_ R.2.2.2.2.1 ∧ Below w.heap.size w w'
theorem edit_Parse.info107 : (Tryd.prog.info? 107).map (fun i => (i.zero, i.size, i.bytes)) = some (some (.agg #[(.int .i64 0), (.int .u64 0), (.int .u64 0), (.int .u64 0), (.string ⟨#[]⟩), (.string ⟨#[]⟩)]), 6, 64) := by kernel_rfl
theorem edit_Parse.info111 : (Tryd.prog.info? 111).map (fun i => (i.zero, i.size, i.bytes)) = some (some (.agg #[(.int .i64 0), (.int .u64 0)]), 2, 16) := by kernel_rfl
def edit_Parse.J1 (w : World) (g b2 b5 : Nat) (lg nx sq n : Int) (C : List S107 × ByteArray × Int × Int) (i : Int) (W : World) : Prop :=
  ∃ (m : Nat) (s : ByteArray) (p e : Int) (v3 : Value) (l3 : List S107), 0 ≤ i ∧ i + m = n ∧ edit_Parse.St w g b2 b5 s p e #[.int .u64 lg, .int .u64 nx, .int .u64 sq, v3, .slice none 0 0] v3 l3 (.slice none 0 0) [] W ∧ edit_Parse.comes m s p e l3 = some C
def edit_Parse.J2 (w : World) (g b2 b5 : Nat) (lg nx sq n : Int) (l3 : List S107) (v3 : Value) (C : List S111 × ByteArray × Int × Int) (i : Int) (W : World) : Prop :=
  ∃ (m : Nat) (s : ByteArray) (p e : Int) (v4 : Value) (l4 : List S111), 0 ≤ i ∧ i + m = n ∧ edit_Parse.St w g b2 b5 s p e #[.int .u64 lg, .int .u64 nx, .int .u64 sq, v3, v4] v3 l3 v4 l4 W ∧ edit_Parse.gones m s p e l4 = some C
structure edit_Parse.Parts (a0 : ByteArray) (R : Int × Int × Int × List S107 × List S111 × Int) (n1 n2 n3 n4 n6 z : Int) (s1 s2 s3 s4 s5 s6 s7 s8 : ByteArray) (p1 p2 p3 p4 p5 p6 p7 p8 e1 e2 e3 e4 e5 e6 e7 e8 : Int) (l3 : List S107) (l4 : List S111) : Prop where
  a1 : varint_Reader_Num.f a0 0 0 = some (n1, s1, p1, e1)
  a2 : varint_Reader_Num.f s1 p1 e1 = some (n2, s2, p2, e2)
  a3 : varint_Reader_Num.f s2 p2 e2 = some (n3, s3, p3, e3)
  a4 : edit_count.f s3 p3 e3 = some (n4, s4, p4, e4)
  a5 : edit_Parse.comes n4.toNat s4 p4 e4 [] = some (l3, s5, p5, e5)
  a6 : edit_count.f s5 p5 e5 = some (n6, s6, p6, e6)
  a7 : edit_Parse.gones n6.toNat s6 p6 e6 [] = some (l4, s7, p7, e7)
  a8 : varint_Reader_End.f s7 p7 e7 = some (z, s8, p8, e8)
  hr : edit_Parse.fin n1 n2 n3 l3 l4 z = R
  h4 : 0 ≤ n4 ∧ n4 ≤ 18446744073709551615
  h6 : 0 ≤ n6 ∧ n6 ≤ 18446744073709551615
theorem edit_Parse.parts {a0 : ByteArray} {R : Int × Int × Int × List S107 × List S111 × Int} (h : edit_Parse.f a0 = some R) : ∃ n1 n2 n3 n4 n6 z s1 s2 s3 s4 s5 s6 s7 s8 p1 p2 p3 p4 p5 p6 p7 p8 e1 e2 e3 e4 e5 e6 e7 e8 l3 l4, edit_Parse.Parts a0 R n1 n2 n3 n4 n6 z s1 s2 s3 s4 s5 s6 s7 s8 p1 p2 p3 p4 p5 p6 p7 p8 e1 e2 e3 e4 e5 e6 e7 e8 l3 l4 := by
  obtain ⟨⟨n1, s1, p1, e1⟩, A1, h⟩ := Option.bind_eq_some_iff.mp h
  obtain ⟨⟨n2, s2, p2, e2⟩, A2, h⟩ := Option.bind_eq_some_iff.mp h
  obtain ⟨⟨n3, s3, p3, e3⟩, A3, h⟩ := Option.bind_eq_some_iff.mp h
  obtain ⟨⟨n4, s4, p4, e4⟩, A4, h⟩ := Option.bind_eq_some_iff.mp h
  dsimp only at A1 A2 A3 A4 h
  by_cases hn4 : 0 ≤ n4 ∧ n4 ≤ 18446744073709551615
  · rw [if_pos hn4] at h
    obtain ⟨⟨l3, s5, p5, e5⟩, A5, h⟩ := Option.bind_eq_some_iff.mp h
    obtain ⟨⟨n6, s6, p6, e6⟩, A6, h⟩ := Option.bind_eq_some_iff.mp h
    dsimp only at A5 A6 h
    by_cases hn6 : 0 ≤ n6 ∧ n6 ≤ 18446744073709551615
    · rw [if_pos hn6] at h
      obtain ⟨⟨l4, s7, p7, e7⟩, A7, h⟩ := Option.bind_eq_some_iff.mp h
      obtain ⟨⟨z, s8, p8, e8⟩, A8, h⟩ := Option.bind_eq_some_iff.mp h
      dsimp only at A7 A8 h
      exact ⟨_, _, _, _, _, _, _, _, _, _, _, _, _, _, _, _, _, _, _, _, _, _, _, _, _, _, _, _, _, _, _, _, A1, A2, A3, A4, A5, A6, A7, A8, Option.some.inj h, hn4, hn6⟩
    · rw [if_neg hn6] at h; cases h
  · rw [if_neg hn4] at h; cases h
set_option maxHeartbeats 1000000 in
set_option maxRecDepth 100000 in
theorem edit_Parse.walk (a0 : ByteArray) (R : Int × Int × Int × List S107 × List S111 × Int) (w : World) (h : edit_Parse.f a0 = some R) : Calls Tryd.prog 18 #[.string a0] w (edit_Parse.Post w R) := by
  obtain ⟨n1, n2, n3, n4, n6, z, s1, s2, s3, s4, s5, s6, s7, s8, p1, p2, p3, p4, p5, p6, p7, p8, e1, e2, e3, e4, e5, e6, e7, e8, l3, l4, A⟩ := edit_Parse.parts h
  clear h
  obtain ⟨hn4, hu4⟩ := A.h4
  obtain ⟨hn6, hu6⟩ := A.h6
  go_enter Tryd.func18, Tryd.ntmps18
  go_wp2_with fail
  refine (varint_Over.calls a0 a0 0 0 w _ ((Below.refl _ w).alloc (Nat.le_refl _) _) rfl).mono ?_
  rintro e W1 ⟨g, rfl, hi1', hb1, hb1'⟩
  have h21 : W1.heap[w.heap.size]? = some (.cells edit_zero26 26 (0, 0)) := (hb1'.block _ (by simp)).trans (heap_alloc_new w _)
  go_wp2_with fail
  refine (varint_Reader_Num.calls g _ _ _ _ _ _ _ w _ hi1' hb1 A.a1).mono ?_
  rintro e W2 ⟨rfl, hi2, hb2, hk2⟩
  have h22 := blk_kept_keep h21 hk2 hi1'.1 (by decide)
  go_wp2_with fail
  refine (varint_Reader_Num.calls g _ _ _ _ _ _ _ w _ hi2 hb2 A.a2).mono ?_
  rintro e W3 ⟨rfl, hi3, hb3, hk3⟩
  have h23 := blk_kept_keep h22 hk3 hi2.1 (by decide)
  go_wp2_with fail
  refine (varint_Reader_Num.calls g _ _ _ _ _ _ _ w _ hi3 hb3 A.a3).mono ?_
  rintro e W4 ⟨rfl, hi4, hb4, hk4⟩
  have h24 := blk_kept_keep h23 hk4 hi3.1 (by decide)
  go_wp2_with fail
  refine (edit_count.calls g _ _ _ _ _ _ _ w _ (hi4.alloc _) (below_alloc hb4 _) A.a4).mono ?_
  rintro e W5 ⟨rfl, hi5, hb5, hk5⟩
  have S0 : edit_Parse.St w g w.heap.size W4.heap.size s3 p3 e3 #[.int .u64 n1, .int .u64 n2, .int .u64 n3, .slice none 0 0, .slice none 0 0] (.slice none 0 0) [] (.slice none 0 0) [] (W4.alloc (.cells #[.int .u64 n1, .int .u64 n2, .int .u64 n3, .slice none 0 0, .slice none 0 0] 26)) :=
    ⟨hi4.alloc _, blk_alloc h24 _, heap_alloc_new _ _, World.ownsRow_nil _ _ _ _, World.ownsRow_nil _ _ _ _, below_alloc hb4 _, Nat.le_refl _, hb4.size, fun h => by have := heap_lt h24; omega⟩
  have S5 := S0.call hi5 hb5 hk5
  obtain ⟨b5, hb5e⟩ : ∃ b, b = W4.heap.size := ⟨_, rfl⟩
  rw [← hb5e] at S5 ⊢
  have X5 := Hush.mk hb5e
  clear S0 h24 h23 h22 h21 hi1' hi2 hi3 hi4 hi5 hb1 hb1' hb2 hb3 hb4 hb5 hk2 hk3 hk4 hk5 hb5e
  go_wp2_with fail
  go_loopw [7] (fun i wr => ∃ iv : Int, i = .int .u64 iv ∧ edit_Parse.J1 w g w.heap.size b5 n1 n2 n3 n4 (l3, s5, p5, e5) iv wr) (fun i _ => (n4 - intOf i).toNat)
  case atStart => exact ⟨0, rfl, n4.toNat, s4, p4, e4, _, _, by omega, by omega, S5, A.a5⟩
  case round =>
    obtain ⟨iv, rfl, m, s, p, e, v3, l, hi0, him, hS, hc⟩ := hrel
    clear S5
    have HC := Hush.mk hc
    clear hc
    by_cases hgo : iv < n4 ∧ e = 0
    · obtain ⟨hlt, he⟩ := hgo
      obtain ⟨m, rfl⟩ : ∃ m', m = m' + 1 := ⟨m - 1, by omega⟩
      obtain ⟨hll, a, t1, t2, t3, t4, t5, t6, q1, q2, q3, q4, q5, q6, f1, f2, f3, f4, f5, f6, HCm, hcs⟩ := edit_Parse.comes_go (he ▸ HC.out)
      have HN := Hush.mk hcs
      subst he
      clear HC hcs
      go_wp2_with fail
      refine (varint_Reader_Err.calls g s p 0 0 s p 0 w wr hS.rd hS.bel rfl).mono ?_
      rintro e W6 ⟨rfl, hi6, hb6, hk6⟩
      have S6 := hS.call hi6 hb6 hk6
      clear hS hi6 hb6 hk6
      go_wp2_with fail
      refine (edit_levelOf.calls g _ _ _ _ _ _ _ w _ S6.rd S6.bel HCm.c1).mono ?_
      rintro e W7 ⟨rfl, hi7, hb7, hk7⟩
      have S7 := S6.call hi7 hb7 hk7
      clear S6 hi7 hb7 hk7
      have hv3 : v3.ownBlock ≠ some W7.heap.size := fun h => by have := (S7.o3.lt _ h).2; omega
      have ha8 := heap_alloc_new W7 (.cells #[.int .i64 a.f0, .int .u64 0, .int .u64 0, .int .u64 0, .string ⟨#[]⟩, .string ⟨#[]⟩] 107)
      have S8 := S7.alloc (.cells #[.int .i64 a.f0, .int .u64 0, .int .u64 0, .int .u64 0, .string ⟨#[]⟩, .string ⟨#[]⟩] 107)
      have hga : w.heap.size ≤ W7.heap.size := S7.bel.size
      clear S7
      go_wp2_with fail
      obtain ⟨W8, hW8⟩ : ∃ W, W = W7.alloc (.cells #[.int .i64 a.f0, .int .u64 0, .int .u64 0, .int .u64 0, .string ⟨#[]⟩, .string ⟨#[]⟩] 107) := ⟨_, rfl⟩
      rw [← hW8] at S8 ha8 ⊢
      obtain ⟨ba, hba⟩ : ∃ b, b = W7.heap.size := ⟨_, rfl⟩
      rw [← hba] at ha8 hv3 hga ⊢
      clear hba hW8
      refine (varint_Reader_Num.calls g _ _ _ _ _ _ _ w _ S8.rd S8.bel HCm.c2).mono ?_
      rintro e W9 ⟨rfl, hi, hb, hk⟩
      have S9 := S8.call hi hb hk
      have ha9 := blk_kept_keep ha8 hk S8.rd.1 (by decide)
      clear S8 ha8 hi hb hk
      go_wp2_with fail
      refine (varint_Reader_Num.calls g _ _ _ _ _ _ _ w _ S9.rd S9.bel HCm.c3).mono ?_
      rintro e W10 ⟨rfl, hi, hb, hk⟩
      have S10 := S9.call hi hb hk
      have ha10 := blk_kept_keep ha9 hk S9.rd.1 (by decide)
      clear S9 ha9 hi hb hk
      go_wp2_with fail
      refine (varint_Reader_Num.calls g _ _ _ _ _ _ _ w _ S10.rd S10.bel HCm.c4).mono ?_
      rintro e W11 ⟨rfl, hi, hb, hk⟩
      have S11 := S10.call hi hb hk
      have ha11 := blk_kept_keep ha10 hk S10.rd.1 (by decide)
      clear S10 ha10 hi hb hk
      go_wp2_with fail
      refine (varint_Reader_Text.calls g _ _ _ 200 _ _ _ _ w _ S11.rd S11.bel HCm.c5).mono ?_
      rintro e W12 ⟨rfl, hi, hb, hk⟩
      have S12 := S11.call hi hb hk
      have ha12 := blk_kept_keep ha11 hk S11.rd.1 (by decide)
      clear S11 ha11 hi hb hk
      go_wp2_with fail
      refine (varint_Reader_Text.calls g _ _ _ 200 _ _ _ _ w _ S12.rd S12.bel HCm.c6).mono ?_
      rintro e W13 ⟨rfl, hi, hb, hk⟩
      have S13 := S12.call hi hb hk
      have ha13 := blk_kept_keep ha12 hk S12.rd.1 (by decide)
      clear S12 ha12 hi hb hk
      have n5a : b5 ≠ ba := blk_ne S13.h5 ha13 (by decide)
      have na5 : ba ≠ b5 := fun h => n5a h.symm
      have n2a : w.heap.size ≠ ba := blk_ne S13.h2 ha13 (by decide)
      have nga : g ≠ ba := blk_ne S13.rd.1 ha13 (by decide)
      have k0 := (blk_cell ha13 0).trans rfl
      have k1 := (blk_cell ha13 1).trans rfl
      have k2 := (blk_cell ha13 2).trans rfl
      have k3 := (blk_cell ha13 3).trans rfl
      have k4 := (blk_cell ha13 4).trans rfl
      have k5 := (blk_cell ha13 5).trans rfl
      have z1 := blk_frozen ha13 1
      have z2 := blk_frozen ha13 2
      have z3 := blk_frozen ha13 3
      have z4 := blk_frozen ha13 4
      have z5 := blk_frozen ha13 5
      have y3 := (blk_cell S13.h5 3).trans rfl
      obtain ⟨WX, hWX⟩ : ∃ W, W = ((((W13.setCell ⟨ba, 1, none⟩ (.int .u64 a.f1.f0)).setCell ⟨ba, 2, none⟩ (.int .u64 a.f1.f1)).setCell ⟨ba, 3, none⟩ (.int .u64 a.f1.f2)).setCell ⟨ba, 4, none⟩ (.string a.f1.f3)).setCell ⟨ba, 5, none⟩ (.string a.f1.f4) := ⟨_, rfl⟩
      have SX : edit_Parse.St w g w.heap.size b5 t6 q6 f6 #[.int .u64 n1, .int .u64 n2, .int .u64 n3, v3, .slice none 0 0] v3 l (.slice none 0 0) [] WX := by
        rw [hWX]
        exact ((((S13.far (b := ba) (i := 1) (.int .u64 a.f1.f0) hga nga n2a n5a hv3 (by simp [Value.ownBlock])).far (b := ba) (i := 2) (.int .u64 a.f1.f1) hga nga n2a n5a hv3 (by simp [Value.ownBlock])).far (b := ba) (i := 3) (.int .u64 a.f1.f2) hga nga n2a n5a hv3 (by simp [Value.ownBlock])).far (b := ba) (i := 4) (.string a.f1.f3) hga nga n2a n5a hv3 (by simp [Value.ownBlock])).far (b := ba) (i := 5) (.string a.f1.f4) hga nga n2a n5a hv3 (by simp [Value.ownBlock])
      have LX := Hush.mk hll
      have HX := Hush.mk hWX
      have SY := SX.alloc (.cells #[.int .i64 a.f0, .int .u64 a.f1.f0, .int .u64 a.f1.f1, .int .u64 a.f1.f2, .string a.f1.f3, .string a.f1.f4] 107)
      have NY : ∀ j u, (edit_cells107 a)[j]? = some u → (WX.alloc (.cells #[.int .i64 a.f0, .int .u64 a.f1.f0, .int .u64 a.f1.f1, .int .u64 a.f1.f2, .string a.f1.f3, .string a.f1.f4] 107)).cell? ((⟨WX.heap.size, 0, none⟩ : Addr).add j) = some u := cells_new WX (edit_cells107 a) 107
      have SZ := Hush.mk SY.bel.size
      have SY := Hush.mk SY
      have NY := Hush.mk NY
      clear hv3 hWX SX hll
      rename_i SY0 NY0
      clear SY0 NY0 ha13 S13
      obtain ⟨I7, HI7, HZ0, HZ1, HZ2⟩ := info_parts edit_Parse.info107
      go_wp2_with (at_builtin; rw [← HX.out]; refine wpList_append_own _ rfl _ _ 23 rfl w.heap.size 107 I7 _ 6 64 Tryd.underlying23 HI7 HZ0 HZ1 HZ2 rfl (by decide) v3 l.length (l.flatMap edit_cells107) rfl SY.out.o3 ⟨WX.heap.size, 0, none⟩ 1 1 (edit_cells107 a) ?ca rfl NY.out ?c2 ?c3 ?c4 ?c5 ?_)
      case ca =>
        have hsz : WX.heap.size = W13.heap.size := by rw [HX.out]; simp [World.setCell]
        rw [hsz]
        rfl
      case c2 => intro u hu; simp [edit_cells107] at hu; rcases hu with rfl | rfl | rfl | rfl | rfl | rfl <;> rfl
      case c3 => have := LX.out; unfold maxLen; omega
      case c4 => have := LX.out; omega
      case c5 => exact SZ.out
      intro v' w1 hown1 hgrow _
      have SP := SY.out.push3 hown1 hgrow
      obtain ⟨A', cap', rfl⟩ : ∃ A' c', v' = .slice A' (l.length + 1) c' := by
        rcases hown1.2 with ⟨rfl, h0⟩ | ⟨g', cap, cur, rfl, _⟩
        · simp [edit_cells107] at h0
        · exact ⟨_, _, rfl⟩
      have y4 := (blk_cell SP.h5 3).trans rfl
      have x4 := blk_frozen SP.h5 3
      have SQ := Hush.mk (SP.set5 3 (.slice A' (l.length + 1) cap'))
      clear SP hown1 hgrow n5a na5 k0 k1 k2 k3 k4 k5 z1 z2 z3 z4 z5 y3
      go_wp2
      go_roundw
      case rel => exact ⟨iv + 1, by go_num, m, t6, q6, f6, _, l ++ [a], by omega, by omega, SQ.out, HN.out⟩
      case measure => simp [intOf]; omega
    · have hst := edit_Parse.comes_stop HC.out (by omega)
      simp only [Prod.mk.injEq] at hst
      obtain ⟨rfl, rfl, rfl, rfl⟩ := hst
      clear HC
      by_cases hlt : iv < n4
      · have he : (e == 0) = false := by simpa using (fun h => hgo ⟨hlt, h⟩ : ¬ e = 0)
        clear hgo
        go_wp2_with fail
        refine (varint_Reader_Err.calls g s p e e s p e w wr hS.rd hS.bel rfl).mono ?_
        rintro e_ W6 ⟨rfl, hi6, hb6, hk6⟩
        have S6 := hS.call hi6 hb6 hk6
        clear hS hi6 hb6 hk6
        go_wp2_with fail
        refine (edit_count.calls g _ _ _ _ _ _ _ w _ S6.rd S6.bel A.a6).mono ?_
        rintro e_ W20 ⟨rfl, hi20, hb20, hk20⟩
        have T0 := S6.call hi20 hb20 hk20
        clear S6 hi20 hb20 hk20
        go_wp2_with fail
        go_loopw [9] (fun i wr => ∃ iv : Int, i = .int .u64 iv ∧ edit_Parse.J2 w g w.heap.size b5 n1 n2 n3 n6 l v3 (l4, s7, p7, e7) iv wr) (fun i _ => (n6 - intOf i).toNat)
        case atStart => exact ⟨0, rfl, n6.toNat, s6, p6, e6, _, _, by omega, by omega, T0, A.a7⟩
        case round =>
          clear T0
          obtain ⟨iv, rfl, m, s, p, e, v4, lg, hi0, him, hT, hc⟩ := hrel
          have HC := Hush.mk hc
          clear hc
          by_cases hgo : iv < n6 ∧ e = 0
          · obtain ⟨hlt2, he⟩ := hgo
            obtain ⟨m, rfl⟩ : ∃ m', m = m' + 1 := ⟨m - 1, by omega⟩
            obtain ⟨hll, a, t1, t2, q1, q2, f1, f2, HCm, hcs⟩ := edit_Parse.gones_go (he ▸ HC.out)
            have HN := Hush.mk hcs
            have LX := Hush.mk hll
            subst he
            clear HC hcs hll
            go_wp2_with fail
            refine (varint_Reader_Err.calls g s p 0 0 s p 0 w wr hT.rd hT.bel rfl).mono ?_
            rintro e_ W21 ⟨rfl, hi, hb, hk⟩
            have T1 := hT.call hi hb hk
            have y1 : W21.cell? ⟨b5, 4, none⟩ = some v4 := blk_cell T1.h5 4
            clear hT hi hb hk
            go_wp2_with fail
            obtain ⟨hc1, hc2⟩ := HCm
            have T1 := T1.drew
            have HC1 := Hush.mk hc1
            have HC2 := Hush.mk hc2
            clear hc1 hc2
            obtain ⟨I7, HI7, HZ0, HZ1, HZ2⟩ := info_parts edit_Parse.info111
            go_region_law (first | (refine step_append_lies _ rfl _ _ 24 rfl w.heap.size 111 I7 _ 2 16 Tryd.underlying24 HI7 HZ0 HZ1 HZ2 rfl (by decide) v4 lg.length (lg.flatMap edit_cells111) rfl (T3.alloc (.cells #[.int .i64 a.f0, .int .u64 a.f1] 111)).o4 ⟨W23.heap.size, 0, none⟩ 1 1 (edit_cells111 a) rfl rfl (cells_new W23 (edit_cells111 a) 111) (by intro u hu; simp [edit_cells111] at hu; rcases hu with rfl | rfl <;> rfl) (by decide) (by have := LX.out; unfold maxLen; omega) (by have := LX.out; omega) (T3.alloc (.cells #[.int .i64 a.f0, .int .u64 a.f1] 111)).bel.size _ rfl ?_; intro g' cap' w1 hown1 hgrow _ _; have TP := (T3.alloc (.cells #[.int .i64 a.f0, .int .u64 a.f1] 111)).push4 hown1 hgrow; have y4 := (blk_cell TP.h5 4).trans rfl; have x4 := blk_frozen TP.h5 4; have TQ := Hush.mk (TP.set5 4 (.slice (some ⟨g', 0, none⟩) (lg.length + 1) cap')); clear TP hown1 hgrow) | (go_simp; go_at_call 59; refine (edit_levelOf.calls g s p 0 a.f0 t1 q1 f1 w _ T1.rd T1.bel HC1.out).mono ?_; rintro e_ W22 ⟨rfl, hi, hb, hk⟩; have T2 : edit_Parse.St w g w.heap.size b5 t1 q1 f1 _ v3 l v4 lg W22 := T1.call hi hb hk; have y2 : W22.cell? ⟨b5, 4, none⟩ = some v4 := blk_cell T2.h5 4; clear hi hb hk) | (go_simp; go_at_call 56; refine (varint_Reader_Num.calls g t1 q1 f1 a.f1 t2 q2 f2 w _ T2.rd T2.bel HC2.out).mono ?_; rintro e_ W23 ⟨rfl, hi, hb, hk⟩; have T3 : edit_Parse.St w g w.heap.size b5 t2 q2 f2 _ v3 l v4 lg W23 := T2.call hi hb hk; have y3 : W23.cell? ⟨b5, 4, none⟩ = some v4 := blk_cell T3.h5 4; have y3a : (W23.alloc (.cells #[.int .i64 a.f0, .int .u64 a.f1] 111)).cell? ⟨b5, 4, none⟩ = some v4 := blk_cell (T3.alloc (.cells #[.int .i64 a.f0, .int .u64 a.f1] 111)).h5 4; clear hi hb hk))
            all_goals
              go_wp2
              go_roundw
              case rel => exact ⟨iv + 1, by go_num, m, t2, q2, f2, _, lg ++ [a], by omega, by omega, TQ.out, HN.out⟩
              case measure => simp [intOf]; omega
          · have hst := edit_Parse.gones_stop HC.out (by omega)
            simp only [Prod.mk.injEq] at hst
            obtain ⟨rfl, rfl, rfl, rfl⟩ := hst
            clear HC
            by_cases hlt2 : iv < n6
            · have he : (e == 0) = false := by simpa using (fun h => hgo ⟨hlt2, h⟩ : ¬ e = 0)
              clear hgo
              go_wp2_with fail
              refine (varint_Reader_Err.calls g s p e e s p e w wr hT.rd hT.bel rfl).mono ?_
              rintro e_ W21 ⟨rfl, hi, hb, hk⟩
              have T1 := hT.call hi hb hk
              clear hT hi hb hk
              go_wp2_with fail
              refine (varint_Reader_End.calls g _ _ _ _ _ _ _ w _ T1.rd T1.bel A.a8).mono ?_
              rintro e_ W30 ⟨rfl, hi, hb, hk⟩
              have U := T1.call hi hb hk
              have HA := Hush.mk A.hr
              clear T1 hi hb hk
              have R3 := R_of_own (d := k107) edit_cells107 (fun _ => rfl) (fun ok x => k107_mkM _ _ ok x) U.o3
              have R4 := R_of_own (d := k111) edit_cells111 (fun _ => rfl) (fun ok x => k111_mkM _ _ ok x) U.o4
              obtain ⟨A3, c3, rfl, _, hC3⟩ := Kd.R_reads R3
              obtain ⟨A4, c4, rfl, _, hC4⟩ := Kd.R_reads R4
              have C3 := Hush.mk hC3
              have C4 := Hush.mk hC4
              have R3 := Hush.mk R3
              have R4 := Hush.mk R4
              have x0 : W30.cell? ⟨b5, 0, none⟩ = some (.int .u64 n1) := blk_cell U.h5 0
              have x1 : W30.cell? ⟨b5, 1, none⟩ = some (.int .u64 n2) := blk_cell U.h5 1
              have x2 : W30.cell? ⟨b5, 2, none⟩ = some (.int .u64 n3) := blk_cell U.h5 2
              have x3 : W30.cell? ⟨b5, 3, none⟩ = some (.slice A3 l.length c3) := blk_cell U.h5 3
              have x4 : W30.cell? ⟨b5, 4, none⟩ = some (.slice A4 lg.length c4) := blk_cell U.h5 4
              clear hC3 hC4
              by_cases hz : z = 0
              · have hz1 : (z == 0) = true := by simpa using hz
                have HZ := Hush.mk hz
                clear hz
                go_wp2_with fail
                refine (edit_Edit_Check.walk n1 n2 n3 A3 c3 l A4 c4 lg W30 C3.out C4.out).mono ?_
                rintro e_ W31 ⟨rfl, hb31⟩
                have h2' := (hb31.block _ (heap_lt U.h2)).trans U.h2
                have h5' := (hb31.block _ (heap_lt U.h5)).trans U.h5
                have o3' := Hush.mk (own_move U.o3 (fun k hk => by obtain ⟨cs, hc⟩ := own_type U.o3 hk; exact hb31.block _ (heap_lt hc)))
                have o4' := Hush.mk (own_move U.o4 (fun k hk => by obtain ⟨cs, hc⟩ := own_type U.o4 hk; exact hb31.block _ (heap_lt hc)))
                have bel' := Hush.mk (U.bel.trans (hb31.mono U.bel.size))
                have x0 : W31.cell? ⟨b5, 0, none⟩ = some (.int .u64 n1) := blk_cell h5' 0
                have x1 : W31.cell? ⟨b5, 1, none⟩ = some (.int .u64 n2) := blk_cell h5' 1
                have x2 : W31.cell? ⟨b5, 2, none⟩ = some (.int .u64 n3) := blk_cell h5' 2
                have x3 : W31.cell? ⟨b5, 3, none⟩ = some (.slice A3 l.length c3) := blk_cell h5' 3
                have x4 : W31.cell? ⟨b5, 4, none⟩ = some (.slice A4 lg.length c4) := blk_cell h5' 4
                have d0 : W31.cell? ⟨w.heap.size, 0, none⟩ = some (.int .u64 0) := blk_cell h2' 0
                have f0 := blk_frozen h2' 0
                have d1 : W31.cell? ⟨w.heap.size, 1, none⟩ = some (.int .u64 0) := blk_cell h2' 1
                have f1 := blk_frozen h2' 1
                have d2 : W31.cell? ⟨w.heap.size, 2, none⟩ = some (.int .u64 0) := blk_cell h2' 2
                have f2 := blk_frozen h2' 2
                have d3 : W31.cell? ⟨w.heap.size, 3, none⟩ = some (.slice none 0 0) := blk_cell h2' 3
                have f3 := blk_frozen h2' 3
                have d4 : W31.cell? ⟨w.heap.size, 4, none⟩ = some (.slice none 0 0) := blk_cell h2' 4
                have f4 := blk_frozen h2' 4
                have H2 := Hush.mk h2'
                clear h2' h5' hb31 U
                obtain ⟨cv, hcv⟩ : ∃ c, c = edit_Edit_Check.val l lg := ⟨_, rfl⟩
                rw [← hcv]
                have HV := Hush.mk hcv
                clear hcv
                by_cases hv : cv = 0
                · have hv1 : (cv == 0) = true := by simpa using hv
                  have hv2 : (cv != 0) = false := by simpa using hv
                  have HR : Hush (R = (n1, n2, n3, l, lg, 0)) := ⟨by rw [← HA.out, edit_Parse.fin, if_pos HZ.out, ← HV.out, if_pos hv]⟩
                  clear hv
                  go_wp2
                  obtain rfl := HR.out
                  exact bodyPost_ret (v := .tuple #[.agg #[.int .u64 n1, .int .u64 n2, .int .u64 n3, .slice A3 l.length c3, .slice A4 lg.length c4], .int .i64 0]) (by simp [results, Tryd.results18, go_sem, d0, d1, d2, d3, d4]) rfl
                    ⟨_, _, rfl, R_of_own (d := k107) edit_cells107 (fun _ => rfl) (fun ok x => k107_mkM _ _ ok x) (own_set5 _ _ _ _ _ o3'.out ⟨_, H2.out⟩ (by decide)), R_of_own (d := k111) edit_cells111 (fun _ => rfl) (fun ok x => k111_mkM _ _ ok x) (own_set5 _ _ _ _ _ o4'.out ⟨_, H2.out⟩ (by decide)), below_set5 _ _ _ _ _ bel'.out (Nat.le_refl _)⟩
                · have hv1 : (cv == 0) = false := by simpa using hv
                  have hv2 : (cv != 0) = true := by simpa using hv
                  have HR : Hush (R = (0, 0, 0, [], [], cv)) := ⟨by rw [← HA.out, edit_Parse.fin, if_pos HZ.out, ← HV.out, if_neg hv]⟩
                  clear hv
                  go_wp2
                  obtain rfl := HR.out
                  exact bodyPost_ret (v := .tuple #[.agg #[.int .u64 0, .int .u64 0, .int .u64 0, .slice none 0 0, .slice none 0 0], .int .i64 cv]) (by simp [results, Tryd.results18, go_sem, d0, d1, d2, d3, d4]) rfl ⟨_, _, rfl, Kd.R_nil _ _ _ _ _, Kd.R_nil _ _ _ _ _, below_set5 _ _ _ _ _ bel'.out (Nat.le_refl _)⟩
              · have hz1 : (z == 0) = false := by simpa using hz
                have hz2 : (z != 0) = true := by simpa using hz
                have HR : Hush (R = (0, 0, 0, [], [], z)) := ⟨by rw [← HA.out, edit_Parse.fin, if_neg hz]⟩
                clear hz
                have d0 : W30.cell? ⟨w.heap.size, 0, none⟩ = some (.int .u64 0) := blk_cell U.h2 0
                have f0 := blk_frozen U.h2 0
                have d1 : W30.cell? ⟨w.heap.size, 1, none⟩ = some (.int .u64 0) := blk_cell U.h2 1
                have f1 := blk_frozen U.h2 1
                have d2 : W30.cell? ⟨w.heap.size, 2, none⟩ = some (.int .u64 0) := blk_cell U.h2 2
                have f2 := blk_frozen U.h2 2
                have d3 : W30.cell? ⟨w.heap.size, 3, none⟩ = some (.slice none 0 0) := blk_cell U.h2 3
                have f3 := blk_frozen U.h2 3
                have d4 : W30.cell? ⟨w.heap.size, 4, none⟩ = some (.slice none 0 0) := blk_cell U.h2 4
                have f4 := blk_frozen U.h2 4
                have HU := Hush.mk U
                clear U
                go_wp2
                obtain rfl := HR.out
                exact bodyPost_ret (v := .tuple #[.agg #[.int .u64 0, .int .u64 0, .int .u64 0, .slice none 0 0, .slice none 0 0], .int .i64 z]) (by simp [results, Tryd.results18, go_sem, d0, d1, d2, d3, d4]) rfl ⟨_, _, rfl, Kd.R_nil _ _ _ _ _, Kd.R_nil _ _ _ _ _, below_set5 _ _ _ _ _ HU.out.bel (Nat.le_refl _)⟩
            · clear hgo
              go_wp2_with fail
              refine (varint_Reader_End.calls g _ _ _ _ _ _ _ w _ hT.rd hT.bel A.a8).mono ?_
              rintro e_ W30 ⟨rfl, hi, hb, hk⟩
              have U := hT.call hi hb hk
              have HA := Hush.mk A.hr
              clear hT hi hb hk
              have R3 := R_of_own (d := k107) edit_cells107 (fun _ => rfl) (fun ok x => k107_mkM _ _ ok x) U.o3
              have R4 := R_of_own (d := k111) edit_cells111 (fun _ => rfl) (fun ok x => k111_mkM _ _ ok x) U.o4
              obtain ⟨A3, c3, rfl, _, hC3⟩ := Kd.R_reads R3
              obtain ⟨A4, c4, rfl, _, hC4⟩ := Kd.R_reads R4
              have C3 := Hush.mk hC3
              have C4 := Hush.mk hC4
              have R3 := Hush.mk R3
              have R4 := Hush.mk R4
              have x0 : W30.cell? ⟨b5, 0, none⟩ = some (.int .u64 n1) := blk_cell U.h5 0
              have x1 : W30.cell? ⟨b5, 1, none⟩ = some (.int .u64 n2) := blk_cell U.h5 1
              have x2 : W30.cell? ⟨b5, 2, none⟩ = some (.int .u64 n3) := blk_cell U.h5 2
              have x3 : W30.cell? ⟨b5, 3, none⟩ = some (.slice A3 l.length c3) := blk_cell U.h5 3
              have x4 : W30.cell? ⟨b5, 4, none⟩ = some (.slice A4 lg.length c4) := blk_cell U.h5 4
              clear hC3 hC4
              by_cases hz : z = 0
              · have hz1 : (z == 0) = true := by simpa using hz
                have HZ := Hush.mk hz
                clear hz
                go_wp2_with fail
                refine (edit_Edit_Check.walk n1 n2 n3 A3 c3 l A4 c4 lg W30 C3.out C4.out).mono ?_
                rintro e_ W31 ⟨rfl, hb31⟩
                have h2' := (hb31.block _ (heap_lt U.h2)).trans U.h2
                have h5' := (hb31.block _ (heap_lt U.h5)).trans U.h5
                have o3' := Hush.mk (own_move U.o3 (fun k hk => by obtain ⟨cs, hc⟩ := own_type U.o3 hk; exact hb31.block _ (heap_lt hc)))
                have o4' := Hush.mk (own_move U.o4 (fun k hk => by obtain ⟨cs, hc⟩ := own_type U.o4 hk; exact hb31.block _ (heap_lt hc)))
                have bel' := Hush.mk (U.bel.trans (hb31.mono U.bel.size))
                have x0 : W31.cell? ⟨b5, 0, none⟩ = some (.int .u64 n1) := blk_cell h5' 0
                have x1 : W31.cell? ⟨b5, 1, none⟩ = some (.int .u64 n2) := blk_cell h5' 1
                have x2 : W31.cell? ⟨b5, 2, none⟩ = some (.int .u64 n3) := blk_cell h5' 2
                have x3 : W31.cell? ⟨b5, 3, none⟩ = some (.slice A3 l.length c3) := blk_cell h5' 3
                have x4 : W31.cell? ⟨b5, 4, none⟩ = some (.slice A4 lg.length c4) := blk_cell h5' 4
                have d0 : W31.cell? ⟨w.heap.size, 0, none⟩ = some (.int .u64 0) := blk_cell h2' 0
                have f0 := blk_frozen h2' 0
                have d1 : W31.cell? ⟨w.heap.size, 1, none⟩ = some (.int .u64 0) := blk_cell h2' 1
                have f1 := blk_frozen h2' 1
                have d2 : W31.cell? ⟨w.heap.size, 2, none⟩ = some (.int .u64 0) := blk_cell h2' 2
                have f2 := blk_frozen h2' 2
                have d3 : W31.cell? ⟨w.heap.size, 3, none⟩ = some (.slice none 0 0) := blk_cell h2' 3
                have f3 := blk_frozen h2' 3
                have d4 : W31.cell? ⟨w.heap.size, 4, none⟩ = some (.slice none 0 0) := blk_cell h2' 4
                have f4 := blk_frozen h2' 4
                have H2 := Hush.mk h2'
                clear h2' h5' hb31 U
                obtain ⟨cv, hcv⟩ : ∃ c, c = edit_Edit_Check.val l lg := ⟨_, rfl⟩
                rw [← hcv]
                have HV := Hush.mk hcv
                clear hcv
                by_cases hv : cv = 0
                · have hv1 : (cv == 0) = true := by simpa using hv
                  have hv2 : (cv != 0) = false := by simpa using hv
                  have HR : Hush (R = (n1, n2, n3, l, lg, 0)) := ⟨by rw [← HA.out, edit_Parse.fin, if_pos HZ.out, ← HV.out, if_pos hv]⟩
                  clear hv
                  go_wp2
                  obtain rfl := HR.out
                  exact bodyPost_ret (v := .tuple #[.agg #[.int .u64 n1, .int .u64 n2, .int .u64 n3, .slice A3 l.length c3, .slice A4 lg.length c4], .int .i64 0]) (by simp [results, Tryd.results18, go_sem, d0, d1, d2, d3, d4]) rfl
                    ⟨_, _, rfl, R_of_own (d := k107) edit_cells107 (fun _ => rfl) (fun ok x => k107_mkM _ _ ok x) (own_set5 _ _ _ _ _ o3'.out ⟨_, H2.out⟩ (by decide)), R_of_own (d := k111) edit_cells111 (fun _ => rfl) (fun ok x => k111_mkM _ _ ok x) (own_set5 _ _ _ _ _ o4'.out ⟨_, H2.out⟩ (by decide)), below_set5 _ _ _ _ _ bel'.out (Nat.le_refl _)⟩
                · have hv1 : (cv == 0) = false := by simpa using hv
                  have hv2 : (cv != 0) = true := by simpa using hv
                  have HR : Hush (R = (0, 0, 0, [], [], cv)) := ⟨by rw [← HA.out, edit_Parse.fin, if_pos HZ.out, ← HV.out, if_neg hv]⟩
                  clear hv
                  go_wp2
                  obtain rfl := HR.out
                  exact bodyPost_ret (v := .tuple #[.agg #[.int .u64 0, .int .u64 0, .int .u64 0, .slice none 0 0, .slice none 0 0], .int .i64 cv]) (by simp [results, Tryd.results18, go_sem, d0, d1, d2, d3, d4]) rfl ⟨_, _, rfl, Kd.R_nil _ _ _ _ _, Kd.R_nil _ _ _ _ _, below_set5 _ _ _ _ _ bel'.out (Nat.le_refl _)⟩
              · have hz1 : (z == 0) = false := by simpa using hz
                have hz2 : (z != 0) = true := by simpa using hz
                have HR : Hush (R = (0, 0, 0, [], [], z)) := ⟨by rw [← HA.out, edit_Parse.fin, if_neg hz]⟩
                clear hz
                have d0 : W30.cell? ⟨w.heap.size, 0, none⟩ = some (.int .u64 0) := blk_cell U.h2 0
                have f0 := blk_frozen U.h2 0
                have d1 : W30.cell? ⟨w.heap.size, 1, none⟩ = some (.int .u64 0) := blk_cell U.h2 1
                have f1 := blk_frozen U.h2 1
                have d2 : W30.cell? ⟨w.heap.size, 2, none⟩ = some (.int .u64 0) := blk_cell U.h2 2
                have f2 := blk_frozen U.h2 2
                have d3 : W30.cell? ⟨w.heap.size, 3, none⟩ = some (.slice none 0 0) := blk_cell U.h2 3
                have f3 := blk_frozen U.h2 3
                have d4 : W30.cell? ⟨w.heap.size, 4, none⟩ = some (.slice none 0 0) := blk_cell U.h2 4
                have f4 := blk_frozen U.h2 4
                have HU := Hush.mk U
                clear U
                go_wp2
                obtain rfl := HR.out
                exact bodyPost_ret (v := .tuple #[.agg #[.int .u64 0, .int .u64 0, .int .u64 0, .slice none 0 0, .slice none 0 0], .int .i64 z]) (by simp [results, Tryd.results18, go_sem, d0, d1, d2, d3, d4]) rfl ⟨_, _, rfl, Kd.R_nil _ _ _ _ _, Kd.R_nil _ _ _ _ _, below_set5 _ _ _ _ _ HU.out.bel (Nat.le_refl _)⟩
      · clear hgo
        go_wp2_with fail
        refine (edit_count.calls g _ _ _ _ _ _ _ w _ hS.rd hS.bel A.a6).mono ?_
        rintro e_ W20 ⟨rfl, hi20, hb20, hk20⟩
        have T0 := hS.call hi20 hb20 hk20
        clear hS hi20 hb20 hk20
        go_wp2_with fail
        go_loopw [9] (fun i wr => ∃ iv : Int, i = .int .u64 iv ∧ edit_Parse.J2 w g w.heap.size b5 n1 n2 n3 n6 l v3 (l4, s7, p7, e7) iv wr) (fun i _ => (n6 - intOf i).toNat)
        case atStart => exact ⟨0, rfl, n6.toNat, s6, p6, e6, _, _, by omega, by omega, T0, A.a7⟩
        case round =>
          clear T0
          obtain ⟨iv, rfl, m, s, p, e, v4, lg, hi0, him, hT, hc⟩ := hrel
          have HC := Hush.mk hc
          clear hc
          by_cases hgo : iv < n6 ∧ e = 0
          · obtain ⟨hlt2, he⟩ := hgo
            obtain ⟨m, rfl⟩ : ∃ m', m = m' + 1 := ⟨m - 1, by omega⟩
            obtain ⟨hll, a, t1, t2, q1, q2, f1, f2, HCm, hcs⟩ := edit_Parse.gones_go (he ▸ HC.out)
            have HN := Hush.mk hcs
            have LX := Hush.mk hll
            subst he
            clear HC hcs hll
            go_wp2_with fail
            refine (varint_Reader_Err.calls g s p 0 0 s p 0 w wr hT.rd hT.bel rfl).mono ?_
            rintro e_ W21 ⟨rfl, hi, hb, hk⟩
            have T1 := hT.call hi hb hk
            have y1 : W21.cell? ⟨b5, 4, none⟩ = some v4 := blk_cell T1.h5 4
            clear hT hi hb hk
            go_wp2_with fail
            obtain ⟨hc1, hc2⟩ := HCm
            have T1 := T1.drew
            have HC1 := Hush.mk hc1
            have HC2 := Hush.mk hc2
            clear hc1 hc2
            obtain ⟨I7, HI7, HZ0, HZ1, HZ2⟩ := info_parts edit_Parse.info111
            go_region_law (first | (refine step_append_lies _ rfl _ _ 24 rfl w.heap.size 111 I7 _ 2 16 Tryd.underlying24 HI7 HZ0 HZ1 HZ2 rfl (by decide) v4 lg.length (lg.flatMap edit_cells111) rfl (T3.alloc (.cells #[.int .i64 a.f0, .int .u64 a.f1] 111)).o4 ⟨W23.heap.size, 0, none⟩ 1 1 (edit_cells111 a) rfl rfl (cells_new W23 (edit_cells111 a) 111) (by intro u hu; simp [edit_cells111] at hu; rcases hu with rfl | rfl <;> rfl) (by decide) (by have := LX.out; unfold maxLen; omega) (by have := LX.out; omega) (T3.alloc (.cells #[.int .i64 a.f0, .int .u64 a.f1] 111)).bel.size _ rfl ?_; intro g' cap' w1 hown1 hgrow _ _; have TP := (T3.alloc (.cells #[.int .i64 a.f0, .int .u64 a.f1] 111)).push4 hown1 hgrow; have y4 := (blk_cell TP.h5 4).trans rfl; have x4 := blk_frozen TP.h5 4; have TQ := Hush.mk (TP.set5 4 (.slice (some ⟨g', 0, none⟩) (lg.length + 1) cap')); clear TP hown1 hgrow) | (go_simp; go_at_call 59; refine (edit_levelOf.calls g s p 0 a.f0 t1 q1 f1 w _ T1.rd T1.bel HC1.out).mono ?_; rintro e_ W22 ⟨rfl, hi, hb, hk⟩; have T2 : edit_Parse.St w g w.heap.size b5 t1 q1 f1 _ v3 l v4 lg W22 := T1.call hi hb hk; have y2 : W22.cell? ⟨b5, 4, none⟩ = some v4 := blk_cell T2.h5 4; clear hi hb hk) | (go_simp; go_at_call 56; refine (varint_Reader_Num.calls g t1 q1 f1 a.f1 t2 q2 f2 w _ T2.rd T2.bel HC2.out).mono ?_; rintro e_ W23 ⟨rfl, hi, hb, hk⟩; have T3 : edit_Parse.St w g w.heap.size b5 t2 q2 f2 _ v3 l v4 lg W23 := T2.call hi hb hk; have y3 : W23.cell? ⟨b5, 4, none⟩ = some v4 := blk_cell T3.h5 4; have y3a : (W23.alloc (.cells #[.int .i64 a.f0, .int .u64 a.f1] 111)).cell? ⟨b5, 4, none⟩ = some v4 := blk_cell (T3.alloc (.cells #[.int .i64 a.f0, .int .u64 a.f1] 111)).h5 4; clear hi hb hk))
            all_goals
              go_wp2
              go_roundw
              case rel => exact ⟨iv + 1, by go_num, m, t2, q2, f2, _, lg ++ [a], by omega, by omega, TQ.out, HN.out⟩
              case measure => simp [intOf]; omega
          · have hst := edit_Parse.gones_stop HC.out (by omega)
            simp only [Prod.mk.injEq] at hst
            obtain ⟨rfl, rfl, rfl, rfl⟩ := hst
            clear HC
            by_cases hlt2 : iv < n6
            · have he : (e == 0) = false := by simpa using (fun h => hgo ⟨hlt2, h⟩ : ¬ e = 0)
              clear hgo
              go_wp2_with fail
              refine (varint_Reader_Err.calls g s p e e s p e w wr hT.rd hT.bel rfl).mono ?_
              rintro e_ W21 ⟨rfl, hi, hb, hk⟩
              have T1 := hT.call hi hb hk
              clear hT hi hb hk
              go_wp2_with fail
              refine (varint_Reader_End.calls g _ _ _ _ _ _ _ w _ T1.rd T1.bel A.a8).mono ?_
              rintro e_ W30 ⟨rfl, hi, hb, hk⟩
              have U := T1.call hi hb hk
              have HA := Hush.mk A.hr
              clear T1 hi hb hk
              have R3 := R_of_own (d := k107) edit_cells107 (fun _ => rfl) (fun ok x => k107_mkM _ _ ok x) U.o3
              have R4 := R_of_own (d := k111) edit_cells111 (fun _ => rfl) (fun ok x => k111_mkM _ _ ok x) U.o4
              obtain ⟨A3, c3, rfl, _, hC3⟩ := Kd.R_reads R3
              obtain ⟨A4, c4, rfl, _, hC4⟩ := Kd.R_reads R4
              have C3 := Hush.mk hC3
              have C4 := Hush.mk hC4
              have R3 := Hush.mk R3
              have R4 := Hush.mk R4
              have x0 : W30.cell? ⟨b5, 0, none⟩ = some (.int .u64 n1) := blk_cell U.h5 0
              have x1 : W30.cell? ⟨b5, 1, none⟩ = some (.int .u64 n2) := blk_cell U.h5 1
              have x2 : W30.cell? ⟨b5, 2, none⟩ = some (.int .u64 n3) := blk_cell U.h5 2
              have x3 : W30.cell? ⟨b5, 3, none⟩ = some (.slice A3 l.length c3) := blk_cell U.h5 3
              have x4 : W30.cell? ⟨b5, 4, none⟩ = some (.slice A4 lg.length c4) := blk_cell U.h5 4
              clear hC3 hC4
              by_cases hz : z = 0
              · have hz1 : (z == 0) = true := by simpa using hz
                have HZ := Hush.mk hz
                clear hz
                go_wp2_with fail
                refine (edit_Edit_Check.walk n1 n2 n3 A3 c3 l A4 c4 lg W30 C3.out C4.out).mono ?_
                rintro e_ W31 ⟨rfl, hb31⟩
                have h2' := (hb31.block _ (heap_lt U.h2)).trans U.h2
                have h5' := (hb31.block _ (heap_lt U.h5)).trans U.h5
                have o3' := Hush.mk (own_move U.o3 (fun k hk => by obtain ⟨cs, hc⟩ := own_type U.o3 hk; exact hb31.block _ (heap_lt hc)))
                have o4' := Hush.mk (own_move U.o4 (fun k hk => by obtain ⟨cs, hc⟩ := own_type U.o4 hk; exact hb31.block _ (heap_lt hc)))
                have bel' := Hush.mk (U.bel.trans (hb31.mono U.bel.size))
                have x0 : W31.cell? ⟨b5, 0, none⟩ = some (.int .u64 n1) := blk_cell h5' 0
                have x1 : W31.cell? ⟨b5, 1, none⟩ = some (.int .u64 n2) := blk_cell h5' 1
                have x2 : W31.cell? ⟨b5, 2, none⟩ = some (.int .u64 n3) := blk_cell h5' 2
                have x3 : W31.cell? ⟨b5, 3, none⟩ = some (.slice A3 l.length c3) := blk_cell h5' 3
                have x4 : W31.cell? ⟨b5, 4, none⟩ = some (.slice A4 lg.length c4) := blk_cell h5' 4
                have d0 : W31.cell? ⟨w.heap.size, 0, none⟩ = some (.int .u64 0) := blk_cell h2' 0
                have f0 := blk_frozen h2' 0
                have d1 : W31.cell? ⟨w.heap.size, 1, none⟩ = some (.int .u64 0) := blk_cell h2' 1
                have f1 := blk_frozen h2' 1
                have d2 : W31.cell? ⟨w.heap.size, 2, none⟩ = some (.int .u64 0) := blk_cell h2' 2
                have f2 := blk_frozen h2' 2
                have d3 : W31.cell? ⟨w.heap.size, 3, none⟩ = some (.slice none 0 0) := blk_cell h2' 3
                have f3 := blk_frozen h2' 3
                have d4 : W31.cell? ⟨w.heap.size, 4, none⟩ = some (.slice none 0 0) := blk_cell h2' 4
                have f4 := blk_frozen h2' 4
                have H2 := Hush.mk h2'
                clear h2' h5' hb31 U
                obtain ⟨cv, hcv⟩ : ∃ c, c = edit_Edit_Check.val l lg := ⟨_, rfl⟩
                rw [← hcv]
                have HV := Hush.mk hcv
                clear hcv
                by_cases hv : cv = 0
                · have hv1 : (cv == 0) = true := by simpa using hv
                  have hv2 : (cv != 0) = false := by simpa using hv
                  have HR : Hush (R = (n1, n2, n3, l, lg, 0)) := ⟨by rw [← HA.out, edit_Parse.fin, if_pos HZ.out, ← HV.out, if_pos hv]⟩
                  clear hv
                  go_wp2
                  obtain rfl := HR.out
                  exact bodyPost_ret (v := .tuple #[.agg #[.int .u64 n1, .int .u64 n2, .int .u64 n3, .slice A3 l.length c3, .slice A4 lg.length c4], .int .i64 0]) (by simp [results, Tryd.results18, go_sem, d0, d1, d2, d3, d4]) rfl
                    ⟨_, _, rfl, R_of_own (d := k107) edit_cells107 (fun _ => rfl) (fun ok x => k107_mkM _ _ ok x) (own_set5 _ _ _ _ _ o3'.out ⟨_, H2.out⟩ (by decide)), R_of_own (d := k111) edit_cells111 (fun _ => rfl) (fun ok x => k111_mkM _ _ ok x) (own_set5 _ _ _ _ _ o4'.out ⟨_, H2.out⟩ (by decide)), below_set5 _ _ _ _ _ bel'.out (Nat.le_refl _)⟩
                · have hv1 : (cv == 0) = false := by simpa using hv
                  have hv2 : (cv != 0) = true := by simpa using hv
                  have HR : Hush (R = (0, 0, 0, [], [], cv)) := ⟨by rw [← HA.out, edit_Parse.fin, if_pos HZ.out, ← HV.out, if_neg hv]⟩
                  clear hv
                  go_wp2
                  obtain rfl := HR.out
                  exact bodyPost_ret (v := .tuple #[.agg #[.int .u64 0, .int .u64 0, .int .u64 0, .slice none 0 0, .slice none 0 0], .int .i64 cv]) (by simp [results, Tryd.results18, go_sem, d0, d1, d2, d3, d4]) rfl ⟨_, _, rfl, Kd.R_nil _ _ _ _ _, Kd.R_nil _ _ _ _ _, below_set5 _ _ _ _ _ bel'.out (Nat.le_refl _)⟩
              · have hz1 : (z == 0) = false := by simpa using hz
                have hz2 : (z != 0) = true := by simpa using hz
                have HR : Hush (R = (0, 0, 0, [], [], z)) := ⟨by rw [← HA.out, edit_Parse.fin, if_neg hz]⟩
                clear hz
                have d0 : W30.cell? ⟨w.heap.size, 0, none⟩ = some (.int .u64 0) := blk_cell U.h2 0
                have f0 := blk_frozen U.h2 0
                have d1 : W30.cell? ⟨w.heap.size, 1, none⟩ = some (.int .u64 0) := blk_cell U.h2 1
                have f1 := blk_frozen U.h2 1
                have d2 : W30.cell? ⟨w.heap.size, 2, none⟩ = some (.int .u64 0) := blk_cell U.h2 2
                have f2 := blk_frozen U.h2 2
                have d3 : W30.cell? ⟨w.heap.size, 3, none⟩ = some (.slice none 0 0) := blk_cell U.h2 3
                have f3 := blk_frozen U.h2 3
                have d4 : W30.cell? ⟨w.heap.size, 4, none⟩ = some (.slice none 0 0) := blk_cell U.h2 4
                have f4 := blk_frozen U.h2 4
                have HU := Hush.mk U
                clear U
                go_wp2
                obtain rfl := HR.out
                exact bodyPost_ret (v := .tuple #[.agg #[.int .u64 0, .int .u64 0, .int .u64 0, .slice none 0 0, .slice none 0 0], .int .i64 z]) (by simp [results, Tryd.results18, go_sem, d0, d1, d2, d3, d4]) rfl ⟨_, _, rfl, Kd.R_nil _ _ _ _ _, Kd.R_nil _ _ _ _ _, below_set5 _ _ _ _ _ HU.out.bel (Nat.le_refl _)⟩
            · clear hgo
              go_wp2_with fail
              refine (varint_Reader_End.calls g _ _ _ _ _ _ _ w _ hT.rd hT.bel A.a8).mono ?_
              rintro e_ W30 ⟨rfl, hi, hb, hk⟩
              have U := hT.call hi hb hk
              have HA := Hush.mk A.hr
              clear hT hi hb hk
              have R3 := R_of_own (d := k107) edit_cells107 (fun _ => rfl) (fun ok x => k107_mkM _ _ ok x) U.o3
              have R4 := R_of_own (d := k111) edit_cells111 (fun _ => rfl) (fun ok x => k111_mkM _ _ ok x) U.o4
              obtain ⟨A3, c3, rfl, _, hC3⟩ := Kd.R_reads R3
              obtain ⟨A4, c4, rfl, _, hC4⟩ := Kd.R_reads R4
              have C3 := Hush.mk hC3
              have C4 := Hush.mk hC4
              have R3 := Hush.mk R3
              have R4 := Hush.mk R4
              have x0 : W30.cell? ⟨b5, 0, none⟩ = some (.int .u64 n1) := blk_cell U.h5 0
              have x1 : W30.cell? ⟨b5, 1, none⟩ = some (.int .u64 n2) := blk_cell U.h5 1
              have x2 : W30.cell? ⟨b5, 2, none⟩ = some (.int .u64 n3) := blk_cell U.h5 2
              have x3 : W30.cell? ⟨b5, 3, none⟩ = some (.slice A3 l.length c3) := blk_cell U.h5 3
              have x4 : W30.cell? ⟨b5, 4, none⟩ = some (.slice A4 lg.length c4) := blk_cell U.h5 4
              clear hC3 hC4
              by_cases hz : z = 0
              · have hz1 : (z == 0) = true := by simpa using hz
                have HZ := Hush.mk hz
                clear hz
                go_wp2_with fail
                refine (edit_Edit_Check.walk n1 n2 n3 A3 c3 l A4 c4 lg W30 C3.out C4.out).mono ?_
                rintro e_ W31 ⟨rfl, hb31⟩
                have h2' := (hb31.block _ (heap_lt U.h2)).trans U.h2
                have h5' := (hb31.block _ (heap_lt U.h5)).trans U.h5
                have o3' := Hush.mk (own_move U.o3 (fun k hk => by obtain ⟨cs, hc⟩ := own_type U.o3 hk; exact hb31.block _ (heap_lt hc)))
                have o4' := Hush.mk (own_move U.o4 (fun k hk => by obtain ⟨cs, hc⟩ := own_type U.o4 hk; exact hb31.block _ (heap_lt hc)))
                have bel' := Hush.mk (U.bel.trans (hb31.mono U.bel.size))
                have x0 : W31.cell? ⟨b5, 0, none⟩ = some (.int .u64 n1) := blk_cell h5' 0
                have x1 : W31.cell? ⟨b5, 1, none⟩ = some (.int .u64 n2) := blk_cell h5' 1
                have x2 : W31.cell? ⟨b5, 2, none⟩ = some (.int .u64 n3) := blk_cell h5' 2
                have x3 : W31.cell? ⟨b5, 3, none⟩ = some (.slice A3 l.length c3) := blk_cell h5' 3
                have x4 : W31.cell? ⟨b5, 4, none⟩ = some (.slice A4 lg.length c4) := blk_cell h5' 4
                have d0 : W31.cell? ⟨w.heap.size, 0, none⟩ = some (.int .u64 0) := blk_cell h2' 0
                have f0 := blk_frozen h2' 0
                have d1 : W31.cell? ⟨w.heap.size, 1, none⟩ = some (.int .u64 0) := blk_cell h2' 1
                have f1 := blk_frozen h2' 1
                have d2 : W31.cell? ⟨w.heap.size, 2, none⟩ = some (.int .u64 0) := blk_cell h2' 2
                have f2 := blk_frozen h2' 2
                have d3 : W31.cell? ⟨w.heap.size, 3, none⟩ = some (.slice none 0 0) := blk_cell h2' 3
                have f3 := blk_frozen h2' 3
                have d4 : W31.cell? ⟨w.heap.size, 4, none⟩ = some (.slice none 0 0) := blk_cell h2' 4
                have f4 := blk_frozen h2' 4
                have H2 := Hush.mk h2'
                clear h2' h5' hb31 U
                obtain ⟨cv, hcv⟩ : ∃ c, c = edit_Edit_Check.val l lg := ⟨_, rfl⟩
                rw [← hcv]
                have HV := Hush.mk hcv
                clear hcv
                by_cases hv : cv = 0
                · have hv1 : (cv == 0) = true := by simpa using hv
                  have hv2 : (cv != 0) = false := by simpa using hv
                  have HR : Hush (R = (n1, n2, n3, l, lg, 0)) := ⟨by rw [← HA.out, edit_Parse.fin, if_pos HZ.out, ← HV.out, if_pos hv]⟩
                  clear hv
                  go_wp2
                  obtain rfl := HR.out
                  exact bodyPost_ret (v := .tuple #[.agg #[.int .u64 n1, .int .u64 n2, .int .u64 n3, .slice A3 l.length c3, .slice A4 lg.length c4], .int .i64 0]) (by simp [results, Tryd.results18, go_sem, d0, d1, d2, d3, d4]) rfl
                    ⟨_, _, rfl, R_of_own (d := k107) edit_cells107 (fun _ => rfl) (fun ok x => k107_mkM _ _ ok x) (own_set5 _ _ _ _ _ o3'.out ⟨_, H2.out⟩ (by decide)), R_of_own (d := k111) edit_cells111 (fun _ => rfl) (fun ok x => k111_mkM _ _ ok x) (own_set5 _ _ _ _ _ o4'.out ⟨_, H2.out⟩ (by decide)), below_set5 _ _ _ _ _ bel'.out (Nat.le_refl _)⟩
                · have hv1 : (cv == 0) = false := by simpa using hv
                  have hv2 : (cv != 0) = true := by simpa using hv
                  have HR : Hush (R = (0, 0, 0, [], [], cv)) := ⟨by rw [← HA.out, edit_Parse.fin, if_pos HZ.out, ← HV.out, if_neg hv]⟩
                  clear hv
                  go_wp2
                  obtain rfl := HR.out
                  exact bodyPost_ret (v := .tuple #[.agg #[.int .u64 0, .int .u64 0, .int .u64 0, .slice none 0 0, .slice none 0 0], .int .i64 cv]) (by simp [results, Tryd.results18, go_sem, d0, d1, d2, d3, d4]) rfl ⟨_, _, rfl, Kd.R_nil _ _ _ _ _, Kd.R_nil _ _ _ _ _, below_set5 _ _ _ _ _ bel'.out (Nat.le_refl _)⟩
              · have hz1 : (z == 0) = false := by simpa using hz
                have hz2 : (z != 0) = true := by simpa using hz
                have HR : Hush (R = (0, 0, 0, [], [], z)) := ⟨by rw [← HA.out, edit_Parse.fin, if_neg hz]⟩
                clear hz
                have d0 : W30.cell? ⟨w.heap.size, 0, none⟩ = some (.int .u64 0) := blk_cell U.h2 0
                have f0 := blk_frozen U.h2 0
                have d1 : W30.cell? ⟨w.heap.size, 1, none⟩ = some (.int .u64 0) := blk_cell U.h2 1
                have f1 := blk_frozen U.h2 1
                have d2 : W30.cell? ⟨w.heap.size, 2, none⟩ = some (.int .u64 0) := blk_cell U.h2 2
                have f2 := blk_frozen U.h2 2
                have d3 : W30.cell? ⟨w.heap.size, 3, none⟩ = some (.slice none 0 0) := blk_cell U.h2 3
                have f3 := blk_frozen U.h2 3
                have d4 : W30.cell? ⟨w.heap.size, 4, none⟩ = some (.slice none 0 0) := blk_cell U.h2 4
                have f4 := blk_frozen U.h2 4
                have HU := Hush.mk U
                clear U
                go_wp2
                obtain rfl := HR.out
                exact bodyPost_ret (v := .tuple #[.agg #[.int .u64 0, .int .u64 0, .int .u64 0, .slice none 0 0, .slice none 0 0], .int .i64 z]) (by simp [results, Tryd.results18, go_sem, d0, d1, d2, d3, d4]) rfl ⟨_, _, rfl, Kd.R_nil _ _ _ _ _, Kd.R_nil _ _ _ _ _, below_set5 _ _ _ _ _ HU.out.bel (Nat.le_refl _)⟩
theorem edit_Parse.calls (a0 : ByteArray) (r1 : Int) (r2 : Int) (r3 : Int) (r4 : List (S107)) (r5 : List (S111)) (r6 : Int) (w : World) (h : edit_Parse.f a0 = some (r1, r2, r3, r4, r5, r6)) :
    Calls Tryd.prog 18 #[.string a0] w fun e w' => ∃ v3_ v4_ : Value, e = .returned (.tuple #[.agg #[.int .u64 r1, .int .u64 r2, .int .u64 r3, v3_, v4_], .int .i64 r6]) ∧ Kd.R k107 107 w' w.heap.size (fun _ => True) v3_ r4 ∧ Kd.R k111 111 w' w.heap.size (fun _ => True) v4_ r5 ∧ Below w.heap.size w w' := edit_Parse.walk a0 _ w h
end Go.Proofs.YteilnbnnhocciaaDoor.K

/-! E3 -/
set_option linter.unusedVariables false
namespace Go.Proofs.YteilnbnnhocciaaDoor.E
open Go.RowKit Go.Proofs.YteilnbnnhocciaaDoorW.PrintWords Go.Proofs.YteilnbnnhocciaaDoorW.PrintMore Go.Proofs.YteilnbnnhocciaaDoorM Go.Proofs.YteilnbnnhocciaaDoor.K
def encI (v : Int) : List UInt8 := enc v.toNat
def encT (t : ByteArray) : List UInt8 := enc t.size ++ t.data.toList
def ser107 (a : S107) : List UInt8 := encI a.f0 ++ (encI a.f1.f0 ++ (encI a.f1.f1 ++ (encI a.f1.f2 ++ (encT a.f1.f3 ++ encT a.f1.f4))))
def ser111 (a : S111) : List UInt8 := encI a.f0 ++ encI a.f1
def u64 (v : Int) : Prop := 0 ≤ v ∧ v < 18446744073709551616
def ok107 (a : S107) : Prop := (0 ≤ a.f0 ∧ a.f0 < 4) ∧ u64 a.f1.f0 ∧ u64 a.f1.f1 ∧ u64 a.f1.f2 ∧ a.f1.f3.size ≤ 200 ∧ a.f1.f4.size ≤ 200
def ok111 (a : S111) : Prop := (0 ≤ a.f0 ∧ a.f0 < 4) ∧ u64 a.f1
theorem come_good : Good edit_Parse.come ser107 ok107 (fun _ => True) := by
  have h := (level_good.seq (num_good.seq (num_good.seq (num_good.seq (text_good.seq text_good))))).map (fun x => (⟨x.1, ⟨x.2.1, x.2.2.1, x.2.2.2.1, x.2.2.2.2.1, x.2.2.2.2.2⟩⟩ : S107)) (fun a => (a.f0, a.f1.f0, a.f1.f1, a.f1.f2, a.f1.f3, a.f1.f4)) (fun _ => rfl) (fun _ => rfl)
  refine ((h.ext ?_).weak (fun _ _ => trivial))
  intro s p e
  unfold edit_Parse.come
  simp only [Option.bind_assoc, Option.bind_some]
theorem gone_good : Good edit_Parse.gone ser111 ok111 (fun _ => True) := by
  have h := (level_good.seq num_good).map (fun x => (⟨x.1, x.2⟩ : S111)) (fun a => (a.f0, a.f1)) (fun _ => rfl) (fun _ => rfl)
  refine ((h.ext ?_).weak (fun _ _ => trivial))
  intro s p e
  unfold edit_Parse.gone
  simp only [Option.bind_assoc, Option.bind_some]
theorem comes_total : ∀ (n : Nat) (s : ByteArray) (p e : Int) (acc : List S107), WF s p → (n + acc.length ≤ 1000 ∨ e ≠ 0) → ∃ l p' e', edit_Parse.comes n s p e acc = some (acc ++ l, s, p', e') ∧ WF s p' ∧
    (e' = 0 → e = 0 ∧ l.length = n ∧ (∀ a ∈ l, ok107 a) ∧ left s p = l.flatMap ser107 ++ left s p') := by
  intro n
  induction n with
  | zero => intro s p e acc hw _; exact ⟨[], p, e, by simp [edit_Parse.comes], hw, fun h => ⟨h, rfl, by simp, by simp⟩⟩
  | succ n ih =>
    intro s p e acc hw hn
    rw [edit_Parse.comes]
    by_cases he : e = 0
    · subst he
      rw [if_pos rfl]
      obtain ⟨v, q, e2, h1, hw1, _, hs⟩ := come_good.total s p 0 hw
      rw [h1]
      simp only [Option.bind_some]
      have hn' : n + 1 + acc.length ≤ 1000 := by rcases hn with h | h; exact h; exact absurd rfl h
      rw [if_pos (by omega)]
      obtain ⟨l, p', e', h2, hw2, hs2⟩ := ih s q e2 (acc ++ [v]) hw1 (.inl (by simp; omega))
      refine ⟨v :: l, p', e', by rw [h2]; simp, hw2, fun h => ?_⟩
      obtain ⟨k1, k2, k3, k4⟩ := hs2 h
      obtain ⟨_, l2, l3⟩ := hs k1
      refine ⟨by trivial, by simp [k2], ?_, by rw [l3, k4]; simp⟩
      intro a ha
      rcases List.mem_cons.1 ha with rfl | ha
      · exact l2
      · exact k3 a ha
    · rw [if_neg he]
      exact ⟨[], p, e, by simp, hw, fun h => absurd h he⟩
theorem gones_total : ∀ (n : Nat) (s : ByteArray) (p e : Int) (acc : List S111), WF s p → (n + acc.length ≤ 1000 ∨ e ≠ 0) → ∃ l p' e', edit_Parse.gones n s p e acc = some (acc ++ l, s, p', e') ∧ WF s p' ∧
    (e' = 0 → e = 0 ∧ l.length = n ∧ (∀ a ∈ l, ok111 a) ∧ left s p = l.flatMap ser111 ++ left s p') := by
  intro n
  induction n with
  | zero => intro s p e acc hw _; exact ⟨[], p, e, by simp [edit_Parse.gones], hw, fun h => ⟨h, rfl, by simp, by simp⟩⟩
  | succ n ih =>
    intro s p e acc hw hn
    rw [edit_Parse.gones]
    by_cases he : e = 0
    · subst he
      rw [if_pos rfl]
      obtain ⟨v, q, e2, h1, hw1, _, hs⟩ := gone_good.total s p 0 hw
      rw [h1]
      simp only [Option.bind_some]
      have hn' : n + 1 + acc.length ≤ 1000 := by rcases hn with h | h; exact h; exact absurd rfl h
      rw [if_pos (by omega)]
      obtain ⟨l, p', e', h2, hw2, hs2⟩ := ih s q e2 (acc ++ [v]) hw1 (.inl (by simp; omega))
      refine ⟨v :: l, p', e', by rw [h2]; simp, hw2, fun h => ?_⟩
      obtain ⟨k1, k2, k3, k4⟩ := hs2 h
      obtain ⟨_, l2, l3⟩ := hs k1
      refine ⟨by trivial, by simp [k2], ?_, by rw [l3, k4]; simp⟩
      intro a ha
      rcases List.mem_cons.1 ha with rfl | ha
      · exact l2
      · exact k3 a ha
    · rw [if_neg he]
      exact ⟨[], p, e, by simp, hw, fun h => absurd h he⟩
def serE (lg nx sq : Int) (c : List S107) (g : List S111) : List UInt8 := encI lg ++ (encI nx ++ (encI sq ++ (enc c.length ++ (c.flatMap ser107 ++ (enc g.length ++ g.flatMap ser111)))))
structure okE (lg nx sq : Int) (c : List S107) (g : List S111) : Prop where
  hlg : u64 lg
  hnx : u64 nx
  hsq : u64 sq
  hc : ∀ a ∈ c, ok107 a
  hg : ∀ a ∈ g, ok111 a
  hcl : c.length ≤ 200
  hgl : g.length ≤ 200
theorem end_f (s : ByteArray) (p e : Int) (hw : WF s p) : ∃ z, varint_Reader_End.f s p e = some (z, s, p, e) ∧ (z = 0 ↔ e = 0 ∧ left s p = []) := by
  obtain ⟨h0, h1, h2⟩ := hw
  have hl := left_len s p
  unfold varint_Reader_End.f
  simp only [varint_Reader_Err.f, varint_Reader_Left.f, Option.bind_some]
  by_cases he : e = 0
  · rw [if_pos he, wrap_in (by omega) (by omega)]
    by_cases h : (s.size : Int) - p > 0
    · rw [if_pos h]
      refine ⟨4, rfl, ⟨fun h => (by cases h), fun ⟨_, h3⟩ => ?_⟩⟩
      rw [h3] at hl; simp at hl; omega
    · rw [if_neg h]
      refine ⟨0, by rw [he], ⟨fun _ => ⟨he, ?_⟩, fun _ => rfl⟩⟩
      exact List.eq_nil_of_length_eq_zero (by omega)
  · rw [if_neg he]
    exact ⟨e, rfl, ⟨fun h => absurd h he, fun h => absurd h.1 he⟩⟩
end Go.Proofs.YteilnbnnhocciaaDoor.E

/-! K8 -/
namespace Go.Proofs.YteilnbnnhocciaaDoor.K
open Go.RowKit Go.Proofs.YteilnbnnhocciaaDoorW.PrintWords Go.Proofs.YteilnbnnhocciaaDoorW.PrintLast Go.Proofs.YteilnbnnhocciaaDoorW.PrintMore Go.Proofs.YteilnbnnhocciaaDoorM
attribute [local go_sem] max2_int min2_int max_two min_two max_three min_three max_four min_four
set_option linter.unusedVariables false
set_option linter.unusedSimpArgs false
def edit_nums.go : Nat → List Int → ByteArray → Option ByteArray
  | _, [], acc => some acc
  | k, x :: xs, acc => (varint_Num.f k x).bind fun t => if acc.size + t.size ≤ 140737488355328 then edit_nums.go k xs (acc ++ t) else none
def edit_nums.f (k : Nat) (l0 : List Int) : Option ByteArray := edit_nums.go k l0 ⟨#[]⟩
theorem edit_nums.int_at {w : World} {A : Option Addr} {k : IntKind} {xs : List Int} (h : Kd.C (Kd.int k) w A xs.length xs) (i : Nat) (hi : i < xs.length) : ∃ ad, A = some ad ∧ w.cell? (ad.add i) = some (.int k (xs.getD i 0)) := by
  obtain ⟨ad, c, e, _, hK, hc⟩ := Kd.C_get h 0 (i : Int) (by omega) (by omega)
  have hc' : c = [.int k (xs.getD i 0)] := hK
  subst hc'
  refine ⟨ad, e, ?_⟩
  have h2 := hc 0 _ rfl
  have e2 : (i : Int).toNat * (Kd.int k).sz + 0 = i := by show (i : Int).toNat * 1 + 0 = i; omega
  rwa [e2] at h2
def edit_nums.J (w : World) (xs : List Int) (k : Nat) (r : ByteArray) (i : Nat) (wr : World) : Prop :=
  ∃ acc : ByteArray, Lib.IsBuilder 140 5 w.heap.size w.heap.size (Lib.strCells acc) wr ∧ Below w.heap.size w wr ∧ edit_nums.go k (xs.drop i) acc = some r
set_option maxHeartbeats 1000000 in
set_option maxRecDepth 100000 in
theorem edit_nums.calls (k : Nat) (A0 : Option Addr) (c0 : Nat) (l0 : List Int) (r : ByteArray) (w : World) (hr0 : Kd.C (Kd.int .u64) w A0 l0.length l0) (hc0 : l0.length ≤ c0) (h : edit_nums.f k l0 = some r) :
    Calls Tryd.prog 51 #[.slice A0 l0.length c0] w fun e w' => e = .returned (.string r) ∧ Below w.heap.size w w' := by
  have hlen := Kd.C_max hr0
  have H := Hush.mk h
  have HR := Hush.mk hr0
  clear h hr0
  go_enter Tryd.func51, Tryd.ntmps51
  go_wp2
  go_loopw [5, 8] (fun _ i wr => ∃ k' : Nat, i = .int .i64 k' ∧ k' ≤ l0.length ∧ edit_nums.J w l0 k r k' wr) (fun _ i _ => l0.length - (intOf i).toNat)
  case atStart => exact ⟨0, rfl, by omega, ⟨#[]⟩, Lib.fresh_isBuilder 140 5 w, (Below.refl _ _).alloc (Nat.le_refl _) _, H.out⟩
  case round =>
    obtain ⟨i, rfl, hi, acc, hb, hbl, hgo⟩ := hrel
    by_cases hlt : i < l0.length
    · rw [List.drop_eq_getElem_cons hlt] at hgo
      obtain ⟨t, ht, hgo⟩ := Option.bind_eq_some_iff.mp hgo
      have hsz : acc.size + t.size ≤ 140737488355328 := by
        rcases Nat.lt_or_ge 140737488355328 (acc.size + t.size) with h2 | h2
        · rw [if_neg (by omega)] at hgo; cases hgo
        · exact h2
      rw [if_pos hsz] at hgo
      have HG := Hush.mk hgo
      have HB := Hush.mk hb
      have HT := Hush.mk ht
      obtain ⟨ad, rfl, hcell⟩ := edit_nums.int_at HR.out i hlt
      have hcell' := (hbl.cell (World.block_lt_of_cell? w _ hcell)).trans hcell
      clear hgo ht hb hcell
      rw [show l0.getD i 0 = l0[i] by simp [List.getD, hlt]] at hcell'
      have hx : ∃ x, x = l0[i] := ⟨_, rfl⟩
      obtain ⟨x, hx⟩ := hx
      rw [← hx] at hcell'
      have HX := Hush.mk hx
      clear hx
      go_wp2_with fail
      refine (varint_Num.calls k x t _ (by rw [HX.out]; exact HT.out)).mono ?_
      rintro e w2 ⟨rfl, hb2⟩
      have hbl2 : Below w.heap.size w w2 := hbl.trans (hb2.mono hbl.size)
      go_wp2_with fail
      refine (writeString w.heap.size w.heap.size (Lib.strCells acc) t _ (builder_below HB.out hb2) (by rw [Lib.strCells_length]; exact hsz) hbl2.size).mono ?_
      rintro e w3 ⟨rfl, hB3, hb3⟩
      have HB3 := Hush.mk hB3
      clear hB3
      go_wp2
      go_roundw
      case rel => exact ⟨i + 1, by go_num, by omega, acc ++ t, .inr (by have := HB3.out; simpa [Lib.strCells] using this), hbl2.trans hb3, HG.out⟩
      case measure => simp [intOf]; omega
    · have he : i = l0.length := by omega
      have HB := Hush.mk hb
      have HE := Hush.mk he
      have HG := Hush.mk hgo
      clear he hgo hb
      go_wp2_with fail
      refine (Tryd.Builder_String_any w.heap.size w.heap.size acc.data.toList _ HB.out hbl.size).mono ?_
      rintro e w3 ⟨rfl, hb3⟩
      go_wp2
      go_ret
      have := HG.out
      rw [HE.out, List.drop_length, edit_nums.go] at this
      obtain rfl := Option.some.inj this
      exact ⟨rfl, hbl.trans hb3⟩
end Go.Proofs.YteilnbnnhocciaaDoor.K

/-! K9 -/
namespace Go.Proofs.YteilnbnnhocciaaDoor.K
open Go.RowKit Go.Proofs.YteilnbnnhocciaaDoorW.PrintWords Go.Proofs.YteilnbnnhocciaaDoorW.PrintLast Go.Proofs.YteilnbnnhocciaaDoorW.PrintMore Go.Proofs.YteilnbnnhocciaaDoorM
attribute [local go_sem] max2_int min2_int max_two min_two max_three min_three max_four min_four
set_option linter.unusedVariables false
set_option linter.unusedSimpArgs false
def varint_Text.f (k : Nat) (a0 : ByteArray) : Option (ByteArray) := (varint_Num.f k (IntKind.u64.wrap ((a0.size : Int)))).bind fun t109 => (if t109.size + a0.size ≤ 9223372036854775807 then (some (t109 ++ a0)) else (none))
set_option maxHeartbeats 1000000 in
theorem varint_Text.calls (k : Nat) (a0 : ByteArray) (r : ByteArray) (w : World) (h : varint_Text.f k a0 = some r) :
    Calls Tryd.prog 52 #[.string a0] w fun e w' => e = .returned (.string r) ∧ Below w.heap.size w w' := by
  obtain ⟨t, A20, H⟩ := Option.bind_eq_some_iff.mp h
  by_cases c3 : t.size + a0.size ≤ 9223372036854775807
  · rw [if_pos c3] at H
    obtain rfl := Option.some.inj H
    have hc := Aside0.mk (Nat.not_lt.2 c3)
    clear c3 H h
    have A2 := Aside0.mk A20
    clear A20
    go_enter Tryd.func52, Tryd.ntmps52
    go_wp2_with fail
    refine (varint_Num.calls k _ t _ A2.out).mono ?_
    rintro e w4 ⟨rfl, hb⟩
    have hc' := hc.out
    go_wp2
    go_ret
    exact ⟨rfl, hb⟩
  · rw [if_neg c3] at H
    exact absurd H (by simp)
end Go.Proofs.YteilnbnnhocciaaDoor.K

/-! K10 -/
namespace Go.Proofs.YteilnbnnhocciaaDoor.K
open Go.RowKit Go.Proofs.YteilnbnnhocciaaDoorW.PrintWords Go.Proofs.YteilnbnnhocciaaDoorW.PrintLast Go.Proofs.YteilnbnnhocciaaDoorW.PrintMore Go.Proofs.YteilnbnnhocciaaDoorM
attribute [local go_sem] max2_int min2_int max_two min_two max_three min_three max_four min_four
set_option linter.unusedVariables false
set_option linter.unusedSimpArgs false
mutual
def edit_Edit_Bytes.l0 : Nat → ByteArray → List (S107) → Int → Int → Int → Int → Int → List (S107) → List (S111) → Option (ByteArray × Int)
  | 0, _, _, _, _, _, _, _, _, _ => none
  | k + 1, x5, x29, x30, x31, x102000, x102001, x102002, x102003, x102004 => if x31 < x30 then (if 0 ≤ x31 then (if x31 < (x29.length : Int) then ((edit_nums.f k (([IntKind.u64.wrap ((rd_T107 x29 x31).f0), (rd_T107 x29 x31).f1.f0, (rd_T107 x29 x31).f1.f1, (rd_T107 x29 x31).f1.f2] : List Int))).bind fun t113 => ((varint_Text.f k ((rd_T107 x29 x31).f1.f3)).bind fun t114 => (if t113.size + t114.size ≤ 9223372036854775807 then ((varint_Text.f k ((rd_T107 x29 x31).f1.f4)).bind fun t115 => (if (t113 ++ t114).size + t115.size ≤ 9223372036854775807 then (if x5.size + ((t113 ++ t114) ++ t115).size ≤ 9223372036854775807 then (edit_Edit_Bytes.l0 k (x5 ++ ((t113 ++ t114) ++ t115)) x29 x30 (wrap64 (x31 + 1)) x102000 x102001 x102002 x102003 x102004) else (none)) else (none))) else (none)))) else (none)) else (none)) else ((edit_nums.f k (([IntKind.u64.wrap ((x102004.length : Int))] : List Int))).bind fun t119 => (if x5.size + t119.size ≤ 9223372036854775807 then (edit_Edit_Bytes.l1 k (x5 ++ t119) x102004 (x102004.length : Int) 0) else (none)))
def edit_Edit_Bytes.l1 : Nat → ByteArray → List (S111) → Int → Int → Option (ByteArray × Int)
  | 0, _, _, _, _ => none
  | k + 1, x5, x68, x69, x70 => if x70 < x69 then (if 0 ≤ x70 then (if x70 < (x68.length : Int) then ((edit_nums.f k (([IntKind.u64.wrap ((rd_T111 x68 x70).f0), (rd_T111 x68 x70).f1] : List Int))).bind fun t125 => (if x5.size + t125.size ≤ 9223372036854775807 then (edit_Edit_Bytes.l1 k (x5 ++ t125) x68 x69 (wrap64 (x70 + 1))) else (none))) else (none)) else (none)) else (some (x5, 0))
end
def edit_Edit_Bytes.f (k : Nat) (a0_0 : Int) (a0_1 : Int) (a0_2 : Int) (l0_3 : List (S107)) (l0_4 : List (S111)) : Option (ByteArray × Int) := (edit_Edit_Check.f a0_0 a0_1 a0_2 l0_3 l0_4).bind fun t102 => (if t102 = 0 then ((edit_nums.f k (([a0_0, a0_1, a0_2, IntKind.u64.wrap ((l0_3.length : Int))] : List Int))).bind fun t106 => (edit_Edit_Bytes.l0 k t106 l0_3 (l0_3.length : Int) 0 a0_0 a0_1 a0_2 l0_3 l0_4)) else (some ((⟨#[]⟩ : ByteArray), t102)))
def edit_Edit_Bytes.T9 : Bool × List (List Nat × List Nat) := (true, [([], []), ([], []), ([1], [1]), ([2], [2]), ([], []), ([4], [4]), ([], []), ([6], [6]), ([], []), ([8], [8]), ([3, 5, 7, 9], [3, 5, 7, 9]), ([10], [10]), ([], []), ([12], [12]), ([13, 11], [13]), ([11, 14], [11, 14]), ([], []), ([16], [16]), ([17, 14], [17]), ([15, 18], [15, 18]), ([0, 19], [0, 19]), ([20, 18, 0, 1, 2, 3, 4, 5, 6, 7, 8, 9, 10, 11, 12, 13, 14, 15, 16, 17, 18, 19, 20], [0, 20])])
def edit_Edit_Bytes.B9 : List Nat := [0, 0, 2, 6, 0, 16, 0, 64, 0, 256, 1022, 2046, 0, 4096, 16382, 32766, 0, 65536, 229374, 524286, 1048575, 2097151]
theorem edit_Edit_Bytes.tab9 : rtab .any (opsOf Tryd.f15 9) = edit_Edit_Bytes.T9 := by kernel_rfl
theorem edit_Edit_Bytes.bits9 : waitsOk edit_Edit_Bytes.T9.2 edit_Edit_Bytes.B9 = true := by kernel_rfl
set_option maxHeartbeats 8000000 in
set_option maxRecDepth 100000 in
theorem edit_Edit_Bytes.calls (k : Nat) (a0_0 : Int) (a0_1 : Int) (a0_2 : Int) (A0_3 : Option Addr) (c0_3 : Nat) (l0_3 : List (S107)) (A0_4 : Option Addr) (c0_4 : Nat) (l0_4 : List (S111)) (r1 : ByteArray) (r2 : Int) (w : World) (hr0_3 : Kd.C k107 w A0_3 l0_3.length l0_3) (hc0_3 : l0_3.length ≤ c0_3) (hr0_4 : Kd.C k111 w A0_4 l0_4.length l0_4) (hc0_4 : l0_4.length ≤ c0_4) (h : edit_Edit_Bytes.f k a0_0 a0_1 a0_2 l0_3 l0_4 = some (r1, r2)) :
    Calls Tryd.prog 15 #[.agg #[.int .u64 a0_0, .int .u64 a0_1, .int .u64 a0_2, .slice A0_3 l0_3.length c0_3, .slice A0_4 l0_4.length c0_4]] w fun e w' => e = .returned (.tuple #[.string r1, .int .i64 r2]) ∧ Below w.heap.size w w' := by
  have hu26 := Tryd.underlying26
  have hu107 := Tryd.underlying107
  have hu97 := Tryd.underlying97
  have hu111 := Tryd.underlying111
  have HR0_3 := Aside0.mk hr0_3
  have HC0_3 := Aside0.mk hc0_3
  clear hr0_3 hc0_3
  have HR0_4 := Aside0.mk hr0_4
  have HC0_4 := Aside0.mk hc0_4
  clear hr0_4 hc0_4
  have HB := Aside0.mk (Below.refl w.heap.size w)
  have H : ((edit_Edit_Check.f a0_0 a0_1 a0_2 l0_3 l0_4).bind fun t102 => (if t102 = 0 then ((edit_nums.f k (([a0_0, a0_1, a0_2, IntKind.u64.wrap ((l0_3.length : Int))] : List Int))).bind fun t106 => (edit_Edit_Bytes.l0 k t106 l0_3 (l0_3.length : Int) 0 a0_0 a0_1 a0_2 l0_3 l0_4)) else (some ((⟨#[]⟩ : ByteArray), t102)))) = some (r1, r2) := h
  clear h
  replace H := Option.bind_eq_some_iff.mp H
  obtain ⟨t102, A20, H⟩ := H
  replace H : (if t102 = 0 then ((edit_nums.f k (([a0_0, a0_1, a0_2, IntKind.u64.wrap ((l0_3.length : Int))] : List Int))).bind fun t106 => (edit_Edit_Bytes.l0 k t106 l0_3 (l0_3.length : Int) 0 a0_0 a0_1 a0_2 l0_3 l0_4)) else (some ((⟨#[]⟩ : ByteArray), t102))) = some (r1, r2) := H
  have A2 := Aside0.mk A20
  clear A20
  by_cases c3 : t102 = 0
  · rw [if_pos c3] at H
    have c3b0 : (t102 == 0) = true := beq_iff_eq.mpr c3
    have c3b1 : (t102 != 0) = false := bne_eq_false_iff_eq.mpr c3
    clear c3
    obtain ⟨y103, hy103⟩ : ∃ y_ : List Int, y_ = (([a0_0, a0_1, a0_2, IntKind.u64.wrap ((l0_3.length : Int))] : List Int)) := ⟨_, rfl⟩
    replace H : ((edit_nums.f k y103).bind fun t106 => (edit_Edit_Bytes.l0 k t106 l0_3 (l0_3.length : Int) 0 a0_0 a0_1 a0_2 l0_3 l0_4)) = some (r1, r2) := by first | (rw [hy103]; with_reducible exact H) | (have H2_ := (Option.bind_some _ _).symm.trans H; rw [hy103]; with_reducible exact H2_) | (have H2_ := (Option.bind_some _ _).symm.trans H; with_reducible exact H2_) | with_reducible exact H | (rw [hy103]; exact H) | exact H
    have Ny103 := Aside0.mk hy103
    clear hy103
    replace H := Option.bind_eq_some_iff.mp H
    obtain ⟨t106, A40, H⟩ := H
    replace H : (edit_Edit_Bytes.l0 k t106 l0_3 (l0_3.length : Int) 0 a0_0 a0_1 a0_2 l0_3 l0_4) = some (r1, r2) := H
    have A4 := Aside0.mk A40
    clear A40
    have H' := Aside0.mk H
    clear H
    go_enter Tryd.func15, Tryd.ntmps15
    go_wp2_with (first | ((with_reducible refine gate_dst (N := 1) rfl ?_); refine box_event ?hg (N := 1) ?hd (cs := #[.int .u64 a0_0, .int .u64 a0_1, .int .u64 a0_2, .slice A0_3 l0_3.length c0_3, .slice A0_4 l0_4.length c0_4]) (t := 26) ?hr ?_; (case hd => rfl); (case hg => rfl); (case hr => first | (go_simp; done) | (go_simp; rfl)); intro gb101 hg w5 hbox hb; have n0_ := Aside0.mk (below_step (by repeat (first | (with_reducible first | exact HB.out | apply below_alloc | apply pw_below_drewN | apply below_drew1) | exact HB.out)) hb); have n1_ := Aside0.mk (hbox); have n2_ := Aside0.mk ((by rw [hg]; exact (below_size (by repeat (first | (with_reducible first | exact HB.out | apply below_alloc | apply pw_below_drewN | apply below_drew1) | exact HB.out))) : w.heap.size ≤ gb101)); have n3_ := Aside0.mk ((by rw [hg]; exact (below_size (by repeat (first | (with_reducible first | exact HB.out | apply below_alloc | apply pw_below_drewN | apply below_drew1) | exact HB.out))) : w.heap.size ≤ gb101)); clear HB; have HB := n0_; have BK101 := n1_; have GW101 := n2_; have GE101 := n3_; clear n0_ n1_ n2_ n3_; clear hb hbox hg; have hcz6_0 : w5.cell? ⟨gb101, 0, none⟩ = some (.int .u64 a0_0) := (blk_cell BK101.out 0).trans rfl; have hcz6_1 : w5.cell? ⟨gb101, 1, none⟩ = some (.int .u64 a0_1) := (blk_cell BK101.out 1).trans rfl; have hcz6_2 : w5.cell? ⟨gb101, 2, none⟩ = some (.int .u64 a0_2) := (blk_cell BK101.out 2).trans rfl; have hcz6_3 : w5.cell? ⟨gb101, 3, none⟩ = some (.slice A0_3 l0_3.length c0_3) := (blk_cell BK101.out 3).trans rfl; have hcz6_4 : w5.cell? ⟨gb101, 4, none⟩ = some (.slice A0_4 l0_4.length c0_4) := (blk_cell BK101.out 4).trans rfl; have hfz6_0 := blk_frozen BK101.out 0; have hfz6_1 := blk_frozen BK101.out 1; have hfz6_2 := blk_frozen BK101.out 2; have hfz6_3 := blk_frozen BK101.out 3; have hfz6_4 := blk_frozen BK101.out 4) | ((with_reducible refine gate_callee (f := 20) rfl ?_); refine goesL_ (some 12) rfl rfl Tryd.func20 (by kernel_rfl) rfl #[.agg #[.int .u64 a0_0, .int .u64 a0_1, .int .u64 a0_2, .slice A0_3 l0_3.length c0_3, .slice A0_4 l0_4.length c0_4]] rfl (by (try simp only [List.map_toArray, List.map_cons, List.map_nil]); first | done | rfl | (simp only [List.length_drop, List.length_take]; rfl)) ?_; (with_reducible refine (edit_Edit_Check.calls a0_0 a0_1 a0_2 _ _ l0_3 _ _ l0_4 t102 _ ?side1 ?side2 ?side3 ?side4 A2.out).mono ?_); (case side1 => repeat (first | exact (Kd.C_below HR0_3.out HB.out) | (with_reducible refine Kd.C_alloc ?_ _) | (with_reducible refine Kd.C_drewN ?_ _) | (with_reducible refine Kd.C_drew ?_))); (case side2 => exact HC0_3.out); (case side3 => repeat (first | exact (Kd.C_below HR0_4.out HB.out) | (with_reducible refine Kd.C_alloc ?_ _) | (with_reducible refine Kd.C_drewN ?_ _) | (with_reducible refine Kd.C_drew ?_))); (case side4 => exact HC0_4.out); rintro e w7 ⟨rfl, hb⟩; refine ⟨_, rfl, ?_⟩; have n0_ := Aside0.mk (blk_below (g := gb101) (o := .cells #[.int .u64 a0_0, .int .u64 a0_1, .int .u64 a0_2, .slice A0_3 l0_3.length c0_3, .slice A0_4 l0_4.length c0_4] 26 (0, 0)) (by (with_reducible repeat (first | refine blk_drewN ?_ _ | refine blk_drew ?_ | refine blk_alloc ?_ _)); exact BK101.out) hb); have n1_ := Aside0.mk (below_step (by repeat (first | (with_reducible first | exact HB.out | apply below_alloc | apply pw_below_drewN | apply below_drew1 | refine below_set ?_ GE101.out) | exact HB.out)) hb); clear BK101; clear HB; have BK101 := n0_; have HB := n1_; clear n0_ n1_; (try clear hb); (try clear hb2); (try clear hk); (try clear hi); have hcz8_0 : w7.cell? ⟨gb101, 0, none⟩ = some (.int .u64 a0_0) := (blk_cell BK101.out 0).trans rfl; have hcz8_1 : w7.cell? ⟨gb101, 1, none⟩ = some (.int .u64 a0_1) := (blk_cell BK101.out 1).trans rfl; have hcz8_2 : w7.cell? ⟨gb101, 2, none⟩ = some (.int .u64 a0_2) := (blk_cell BK101.out 2).trans rfl; have hcz8_3 : w7.cell? ⟨gb101, 3, none⟩ = some (.slice A0_3 l0_3.length c0_3) := (blk_cell BK101.out 3).trans rfl; have hcz8_4 : w7.cell? ⟨gb101, 4, none⟩ = some (.slice A0_4 l0_4.length c0_4) := (blk_cell BK101.out 4).trans rfl; have hfz8_0 := blk_frozen BK101.out 0; have hfz8_1 := blk_frozen BK101.out 1; have hfz8_2 := blk_frozen BK101.out 2; have hfz8_3 := blk_frozen BK101.out 3; have hfz8_4 := blk_frozen BK101.out 4) | ((with_reducible refine gate_dst (N := 26) rfl ?_); refine Kd.R_lit (Kd.int .u64) _ 22 ?hg (N := 26) ?hd (xs := ([a0_0, a0_1, a0_2, IntKind.u64.wrap ((l0_3.length : Int))] : List Int)) (inner := [.int .u64 a0_0, .int .u64 a0_1, .int .u64 a0_2, .int .u64 (IntKind.u64.wrap ((l0_3.length : Int)))]) (ok := fun _ => True) (okp := fun _ => True) ?hr ?hp (fun _ hk => hk) trivial (Below.refl _ _) (Nat.le_refl _) (by simp) ?_; (case hd => rfl); (case hg => rfl); (case hr => first | (go_simp; done) | (go_simp; rfl)); (case hp => exact (Reps.one (show Kd.M (Kd.int .u64) _ _ _ a0_0 [.int .u64 a0_0] from rfl) (Reps.one (show Kd.M (Kd.int .u64) _ _ _ a0_1 [.int .u64 a0_1] from rfl) (Reps.one (show Kd.M (Kd.int .u64) _ _ _ a0_2 [.int .u64 a0_2] from rfl) (Reps.one (show Kd.M (Kd.int .u64) _ _ _ (IntKind.u64.wrap ((l0_3.length : Int))) [.int .u64 (IntKind.u64.wrap ((l0_3.length : Int)))] from rfl) (Reps.none _ _)))))); intro v104 w9 ho10 hb hg_ hnew_; clear hg_ hnew_; (first | rw [← Ny103.out] at ho10 | (simp only [Int.reduceToNat] at ho10; rw [← Ny103.out] at ho10)); have n0_ := Aside0.mk (Kd.R_lower ho10 (below_size (by repeat (first | (with_reducible first | exact HB.out | apply below_alloc | apply pw_below_drewN | apply below_drew1 | refine below_set ?_ GE101.out) | exact HB.out)))); have n1_ := Aside0.mk (blk_below (g := gb101) (o := .cells #[.int .u64 a0_0, .int .u64 a0_1, .int .u64 a0_2, .slice A0_3 l0_3.length c0_3, .slice A0_4 l0_4.length c0_4] 26 (0, 0)) (by (with_reducible repeat (first | refine blk_drewN ?_ _ | refine blk_drew ?_ | refine blk_alloc ?_ _)); exact BK101.out) hb); have n2_ := Aside0.mk (below_step (by repeat (first | (with_reducible first | exact HB.out | apply below_alloc | apply pw_below_drewN | apply below_drew1 | refine below_set ?_ GE101.out) | exact HB.out)) hb); clear BK101; clear HB; have HO105 := n0_; have BK101 := n1_; have HB := n2_; clear n0_ n1_ n2_; clear hb ho10; obtain ⟨Ao11, co11, eo11⟩ := Kd.R_slice HO105.out; subst eo11) | ((with_reducible refine gate_callee (f := 51) rfl ?_); refine goesL_ (some 27) rfl rfl Tryd.func51 (by kernel_rfl) rfl #[.slice Ao11 y103.length co11] rfl (by (try simp only [List.map_toArray, List.map_cons, List.map_nil]); first | done | rfl | (simp only [List.length_drop, List.length_take]; rfl)) ?_; (with_reducible refine (edit_nums.calls k _ _ y103 t106 _ ?side1 ?side2 A4.out).mono ?_); (case side1 => repeat (first | exact (Kd.R_reads' HO105.out).2.2 | (with_reducible refine Kd.C_alloc ?_ _) | (with_reducible refine Kd.C_drewN ?_ _) | (with_reducible refine Kd.C_drew ?_))); (case side2 => exact (Kd.R_reads' HO105.out).2.1); rintro e w12 ⟨rfl, hb⟩; refine ⟨_, rfl, ?_⟩; have n0_ := Aside0.mk (Kd.R_below (by (with_reducible repeat (first | apply Kd.R_alloc | apply Kd.R_drewN | apply Kd.R_drew)); exact HO105.out) hb); have n1_ := Aside0.mk (blk_below (g := gb101) (o := .cells #[.int .u64 a0_0, .int .u64 a0_1, .int .u64 a0_2, .slice A0_3 l0_3.length c0_3, .slice A0_4 l0_4.length c0_4] 26 (0, 0)) (by (with_reducible repeat (first | refine blk_drewN ?_ _ | refine blk_drew ?_ | refine blk_alloc ?_ _)); exact BK101.out) hb); have n2_ := Aside0.mk (below_step (by repeat (first | (with_reducible first | exact HB.out | apply below_alloc | apply pw_below_drewN | apply below_drew1 | refine below_set ?_ GE101.out) | exact HB.out)) hb); clear HO105; clear BK101; clear HB; have HO105 := n0_; have BK101 := n1_; have HB := n2_; clear n0_ n1_ n2_; (try clear hb); (try clear hb2); (try clear hk); (try clear hi); have hcz13_0 : w12.cell? ⟨gb101, 0, none⟩ = some (.int .u64 a0_0) := (blk_cell BK101.out 0).trans rfl; have hcz13_1 : w12.cell? ⟨gb101, 1, none⟩ = some (.int .u64 a0_1) := (blk_cell BK101.out 1).trans rfl; have hcz13_2 : w12.cell? ⟨gb101, 2, none⟩ = some (.int .u64 a0_2) := (blk_cell BK101.out 2).trans rfl; have hcz13_3 : w12.cell? ⟨gb101, 3, none⟩ = some (.slice A0_3 l0_3.length c0_3) := (blk_cell BK101.out 3).trans rfl; have hcz13_4 : w12.cell? ⟨gb101, 4, none⟩ = some (.slice A0_4 l0_4.length c0_4) := (blk_cell BK101.out 4).trans rfl; have hfz13_0 := blk_frozen BK101.out 0; have hfz13_1 := blk_frozen BK101.out 1; have hfz13_2 := blk_frozen BK101.out 2; have hfz13_3 := blk_frozen BK101.out 3; have hfz13_4 := blk_frozen BK101.out 4))
    go_loopg [5, 31] k (fun kq v5 v31 w' => ∃ (x5_1 : ByteArray) (x31_1 : Int), v5 = .string x5_1 ∧ v31 = .int .i64 x31_1 ∧ Aside0 (edit_Edit_Bytes.l0 kq x5_1 l0_3 (l0_3.length : Int) x31_1 a0_0 a0_1 a0_2 l0_3 l0_4 = some (r1, r2)) ∧ Aside0 (kq ≤ k) ∧ Aside0 (w'.heap[gb101]? = some (.cells #[.int .u64 a0_0, .int .u64 a0_1, .int .u64 a0_2, (.slice A0_3 l0_3.length c0_3), (.slice A0_4 l0_4.length c0_4)] 26 (0, 0))) ∧ Aside0 (Below w.heap.size w w'))
    case atStart => exact ⟨(t106), (0), (by first | rfl | (simp; done) | (simp [*]; done)), (by first | rfl | (simp; done) | (simp [*]; done)), H', ⟨Nat.le_refl _⟩, ⟨by (with_reducible repeat (first | refine blk_drewN ?_ _ | refine blk_drew ?_ | refine blk_alloc ?_ _)); exact BK101.out⟩, ⟨by repeat (first | (with_reducible first | exact HB.out | apply below_alloc | apply pw_below_drewN | apply below_drew1 | refine below_set ?_ GE101.out) | exact HB.out)⟩⟩
    case round =>
      clear H'
      try clear c1
      try clear c2
      try clear p2
      try clear c3
      try clear c3b0
      try clear c3b1
      try clear c5
      try clear hcz13_0
      try clear hcz13_1
      try clear hcz13_2
      try clear hcz13_3
      try clear hcz13_4
      try clear hcz6_0
      try clear hcz6_1
      try clear hcz6_2
      try clear hcz6_3
      try clear hcz6_4
      try clear hcz8_0
      try clear hcz8_1
      try clear hcz8_2
      try clear hcz8_3
      try clear hcz8_4
      try clear hfz13_0
      try clear hfz13_1
      try clear hfz13_2
      try clear hfz13_3
      try clear hfz13_4
      try clear hfz6_0
      try clear hfz6_1
      try clear hfz6_2
      try clear hfz6_3
      try clear hfz6_4
      try clear hfz8_0
      try clear hfz8_1
      try clear hfz8_2
      try clear hfz8_3
      try clear hfz8_4
      obtain ⟨x5_1, x31_1, rfl, rfl, HA, HK1, BK101, HB⟩ := hrel
      cases gk with
      | zero => exact absurd HA.out (by simp [edit_Edit_Bytes.l0])
      | succ k1 =>
        have H := HA.out
        clear HA
        simp only [edit_Edit_Bytes.l0] at H
        by_cases c14 : x31_1 < (l0_3.length : Int)
        · rw [if_pos c14] at H
          have c14b0 : decide (x31_1 < (l0_3.length : Int)) = true := decide_eq_true c14
          clear c14
          by_cases c15 : 0 ≤ x31_1
          · rw [if_pos c15] at H
            have c15b0 : decide (0 ≤ x31_1) = true := decide_eq_true c15
            clear c15
            by_cases c16 : x31_1 < (l0_3.length : Int)
            · rw [if_pos c16] at H
              have c16b0 : decide (x31_1 < (l0_3.length : Int)) = true := decide_eq_true c16
              clear c16
              obtain ⟨y110, hy110⟩ : ∃ y_ : List Int, y_ = (([IntKind.u64.wrap ((rd_T107 l0_3 x31_1).f0), (rd_T107 l0_3 x31_1).f1.f0, (rd_T107 l0_3 x31_1).f1.f1, (rd_T107 l0_3 x31_1).f1.f2] : List Int)) := ⟨_, rfl⟩
              replace H : ((edit_nums.f k1 y110).bind fun t113 => ((varint_Text.f k1 ((rd_T107 l0_3 x31_1).f1.f3)).bind fun t114 => (if t113.size + t114.size ≤ 9223372036854775807 then ((varint_Text.f k1 ((rd_T107 l0_3 x31_1).f1.f4)).bind fun t115 => (if (t113 ++ t114).size + t115.size ≤ 9223372036854775807 then (if x5_1.size + ((t113 ++ t114) ++ t115).size ≤ 9223372036854775807 then (edit_Edit_Bytes.l0 k1 (x5_1 ++ ((t113 ++ t114) ++ t115)) l0_3 (l0_3.length : Int) (wrap64 (x31_1 + 1)) a0_0 a0_1 a0_2 l0_3 l0_4) else (none)) else (none))) else (none)))) = some (r1, r2) := by first | (rw [hy110]; with_reducible exact H) | (have H2_ := (Option.bind_some _ _).symm.trans H; rw [hy110]; with_reducible exact H2_) | (have H2_ := (Option.bind_some _ _).symm.trans H; with_reducible exact H2_) | with_reducible exact H | (rw [hy110]; exact H) | exact H
              have Ny110 := Aside0.mk hy110
              clear hy110
              replace H := Option.bind_eq_some_iff.mp H
              obtain ⟨t113, A170, H⟩ := H
              replace H : ((varint_Text.f k1 ((rd_T107 l0_3 x31_1).f1.f3)).bind fun t114 => (if t113.size + t114.size ≤ 9223372036854775807 then ((varint_Text.f k1 ((rd_T107 l0_3 x31_1).f1.f4)).bind fun t115 => (if (t113 ++ t114).size + t115.size ≤ 9223372036854775807 then (if x5_1.size + ((t113 ++ t114) ++ t115).size ≤ 9223372036854775807 then (edit_Edit_Bytes.l0 k1 (x5_1 ++ ((t113 ++ t114) ++ t115)) l0_3 (l0_3.length : Int) (wrap64 (x31_1 + 1)) a0_0 a0_1 a0_2 l0_3 l0_4) else (none)) else (none))) else (none))) = some (r1, r2) := H
              have A17 := Aside0.mk A170
              clear A170
              replace H := Option.bind_eq_some_iff.mp H
              obtain ⟨t114, A180, H⟩ := H
              replace H : (if t113.size + t114.size ≤ 9223372036854775807 then ((varint_Text.f k1 ((rd_T107 l0_3 x31_1).f1.f4)).bind fun t115 => (if (t113 ++ t114).size + t115.size ≤ 9223372036854775807 then (if x5_1.size + ((t113 ++ t114) ++ t115).size ≤ 9223372036854775807 then (edit_Edit_Bytes.l0 k1 (x5_1 ++ ((t113 ++ t114) ++ t115)) l0_3 (l0_3.length : Int) (wrap64 (x31_1 + 1)) a0_0 a0_1 a0_2 l0_3 l0_4) else (none)) else (none))) else (none)) = some (r1, r2) := H
              have A18 := Aside0.mk A180
              clear A180
              by_cases c19 : t113.size + t114.size ≤ 9223372036854775807
              · rw [if_pos c19] at H
                have c19b0 := eq_true c19
                have c19b1 : decide (t113.size + t114.size ≤ 9223372036854775807) = true := decide_eq_true c19
                try have c19b2 : (9223372036854775807 < t113.size + t114.size) = False := eq_false (Nat.not_lt.2 c19)
                replace H := Option.bind_eq_some_iff.mp H
                obtain ⟨t115, A200, H⟩ := H
                replace H : (if (t113 ++ t114).size + t115.size ≤ 9223372036854775807 then (if x5_1.size + ((t113 ++ t114) ++ t115).size ≤ 9223372036854775807 then (edit_Edit_Bytes.l0 k1 (x5_1 ++ ((t113 ++ t114) ++ t115)) l0_3 (l0_3.length : Int) (wrap64 (x31_1 + 1)) a0_0 a0_1 a0_2 l0_3 l0_4) else (none)) else (none)) = some (r1, r2) := H
                have A20 := Aside0.mk A200
                clear A200
                by_cases c21 : (t113 ++ t114).size + t115.size ≤ 9223372036854775807
                · rw [if_pos c21] at H
                  have c21b0 := eq_true c21
                  have c21b1 : decide ((t113 ++ t114).size + t115.size ≤ 9223372036854775807) = true := decide_eq_true c21
                  try have c21b2 : (9223372036854775807 < (t113 ++ t114).size + t115.size) = False := eq_false (Nat.not_lt.2 c21)
                  try (have c21b3 := c21b2; simp only [ByteArray.size_append'] at c21b3)
                  by_cases c22 : x5_1.size + ((t113 ++ t114) ++ t115).size ≤ 9223372036854775807
                  · rw [if_pos c22] at H
                    have c22b0 := eq_true c22
                    have c22b1 : decide (x5_1.size + ((t113 ++ t114) ++ t115).size ≤ 9223372036854775807) = true := decide_eq_true c22
                    try have c22b2 : (9223372036854775807 < x5_1.size + ((t113 ++ t114) ++ t115).size) = False := eq_false (Nat.not_lt.2 c22)
                    try (have c22b3 := c22b2; simp only [ByteArray.size_append'] at c22b3)
                    have H' := Aside0.mk H
                    clear H
                    have p107 : 0 ≤ (x31_1 : Int) := of_decide_eq_true (by first | (with_reducible assumption) | assumption)
                    have q107 : x31_1 < (l0_3.length : Int) := of_decide_eq_true (by first | (with_reducible assumption) | assumption)
                    obtain ⟨ad107, e107, hx107_0, hx107_1, hx107_2, hx107_3, hx107_4, hx107_5⟩ := at_T107 HR0_3.out x31_1 p107 q107
                    cases e107
                    replace hx107_0 := (HB.out.cell (World.block_lt_of_cell? w _ hx107_0)).trans hx107_0
                    replace hx107_1 := (HB.out.cell (World.block_lt_of_cell? w _ hx107_1)).trans hx107_1
                    replace hx107_2 := (HB.out.cell (World.block_lt_of_cell? w _ hx107_2)).trans hx107_2
                    replace hx107_3 := (HB.out.cell (World.block_lt_of_cell? w _ hx107_3)).trans hx107_3
                    replace hx107_4 := (HB.out.cell (World.block_lt_of_cell? w _ hx107_4)).trans hx107_4
                    replace hx107_5 := (HB.out.cell (World.block_lt_of_cell? w _ hx107_5)).trans hx107_5
                    replace p107 := eq_true p107
                    replace q107 := eq_true q107
                    try go_wp2_with (first | ((with_reducible refine gate_dst (N := 7) rfl ?_); refine box_event ?hg (N := 7) ?hd (cs := #[.int .i64 0, .int .u64 0, .int .u64 0, .int .u64 0, .string (⟨#[]⟩ : ByteArray), .string (⟨#[]⟩ : ByteArray)]) (t := 107) ?hr ?_; (case hd => rfl); (case hg => rfl); (case hr => first | (go_simp; done) | (go_simp; rfl)); intro gb108 hg w23 hbox hb; have n0_ := Aside0.mk (blk_below (g := gb101) (o := .cells #[.int .u64 a0_0, .int .u64 a0_1, .int .u64 a0_2, .slice (some ad107) l0_3.length c0_3, .slice A0_4 l0_4.length c0_4] 26 (0, 0)) (by (with_reducible repeat (first | refine blk_drewN ?_ _ | refine blk_drew ?_ | refine blk_alloc ?_ _)); exact BK101.out) hb); have n1_ := Aside0.mk (below_step (by repeat (first | (with_reducible first | exact HB.out | apply below_alloc | apply pw_below_drewN | apply below_drew1 | refine below_set ?_ GE101.out) | exact HB.out)) hb); have n2_ := Aside0.mk (hbox); have n3_ := Aside0.mk ((by rw [hg]; exact (below_size (by repeat (first | (with_reducible first | exact HB.out | apply below_alloc | apply pw_below_drewN | apply below_drew1 | refine below_set ?_ GE101.out) | exact HB.out))) : w.heap.size ≤ gb108)); have n4_ := Aside0.mk ((by rw [hg]; exact (below_size (by repeat (first | (with_reducible first | exact HB.out | apply below_alloc | apply pw_below_drewN | apply below_drew1 | refine below_set ?_ GE101.out) | exact HB.out))) : w.heap.size ≤ gb108)); have n5_ := Aside0.mk ((by rw [hg]; exact Nat.ne_of_lt (blk_lt (g := gb101) (o := .cells #[.int .u64 a0_0, .int .u64 a0_1, .int .u64 a0_2, .slice (some ad107) l0_3.length c0_3, .slice A0_4 l0_4.length c0_4] 26 (0, 0)) (by (with_reducible repeat (first | refine blk_drewN ?_ _ | refine blk_drew ?_ | refine blk_alloc ?_ _)); exact BK101.out)) : gb101 ≠ gb108)); have n6_ := Aside0.mk ((by rw [hg]; exact Nat.ne_of_gt (blk_lt (g := gb101) (o := .cells #[.int .u64 a0_0, .int .u64 a0_1, .int .u64 a0_2, .slice (some ad107) l0_3.length c0_3, .slice A0_4 l0_4.length c0_4] 26 (0, 0)) (by (with_reducible repeat (first | refine blk_drewN ?_ _ | refine blk_drew ?_ | refine blk_alloc ?_ _)); exact BK101.out)) : gb108 ≠ gb101)); clear BK101; clear HB; have BK101 := n0_; have HB := n1_; have BK108 := n2_; have GW108 := n3_; have GE108 := n4_; have NB101_108 := n5_; have NB108_101 := n6_; clear n0_ n1_ n2_ n3_ n4_ n5_ n6_; clear hb hbox hg; have hnb24 := NB108_101.out; have hnc24 := NB101_108.out; have hcz25_0 : w23.cell? ⟨gb108, 0, none⟩ = some (.int .i64 0) := (blk_cell BK108.out 0).trans rfl; have hcz25_1 : w23.cell? ⟨gb108, 1, none⟩ = some (.int .u64 0) := (blk_cell BK108.out 1).trans rfl; have hcz25_2 : w23.cell? ⟨gb108, 2, none⟩ = some (.int .u64 0) := (blk_cell BK108.out 2).trans rfl; have hcz25_3 : w23.cell? ⟨gb108, 3, none⟩ = some (.int .u64 0) := (blk_cell BK108.out 3).trans rfl; have hcz25_4 : w23.cell? ⟨gb108, 4, none⟩ = some (.string (⟨#[]⟩ : ByteArray)) := (blk_cell BK108.out 4).trans rfl; have hcz25_5 : w23.cell? ⟨gb108, 5, none⟩ = some (.string (⟨#[]⟩ : ByteArray)) := (blk_cell BK108.out 5).trans rfl; have hfz25_0 := blk_frozen BK108.out 0; have hfz25_1 := blk_frozen BK108.out 1; have hfz25_2 := blk_frozen BK108.out 2; have hfz25_3 := blk_frozen BK108.out 3; have hfz25_4 := blk_frozen BK108.out 4; have hfz25_5 := blk_frozen BK108.out 5) | ((with_reducible refine gate_dst (N := 8) rfl ?_); refine box_event ?hg (N := 8) ?hd (cs := #[.int .u64 0, .int .u64 0, .int .u64 0, .string (⟨#[]⟩ : ByteArray), .string (⟨#[]⟩ : ByteArray)]) (t := 97) ?hr ?_; (case hd => rfl); (case hg => rfl); (case hr => first | (go_simp; done) | (go_simp; rfl)); intro gb109 hg w26 hbox hb; have n0_ := Aside0.mk (blk_below (g := gb101) (o := .cells #[.int .u64 a0_0, .int .u64 a0_1, .int .u64 a0_2, .slice (some ad107) l0_3.length c0_3, .slice A0_4 l0_4.length c0_4] 26 (0, 0)) (by (with_reducible repeat (first | refine blk_drewN ?_ _ | refine blk_drew ?_ | refine blk_alloc ?_ _)); refine blk_far ?_ NB101_108.out _; (with_reducible repeat (first | refine blk_drewN ?_ _ | refine blk_drew ?_ | refine blk_alloc ?_ _)); refine blk_far ?_ NB101_108.out _; (with_reducible repeat (first | refine blk_drewN ?_ _ | refine blk_drew ?_ | refine blk_alloc ?_ _)); refine blk_far ?_ NB101_108.out _; (with_reducible repeat (first | refine blk_drewN ?_ _ | refine blk_drew ?_ | refine blk_alloc ?_ _)); refine blk_far ?_ NB101_108.out _; (with_reducible repeat (first | refine blk_drewN ?_ _ | refine blk_drew ?_ | refine blk_alloc ?_ _)); refine blk_far ?_ NB101_108.out _; (with_reducible repeat (first | refine blk_drewN ?_ _ | refine blk_drew ?_ | refine blk_alloc ?_ _)); refine blk_far ?_ NB101_108.out _; (with_reducible repeat (first | refine blk_drewN ?_ _ | refine blk_drew ?_ | refine blk_alloc ?_ _)); exact BK101.out) hb); have n1_ := Aside0.mk (blk_below (g := gb108) (o := .cells #[.int .i64 ((rd_T107 l0_3 x31_1).f0), .int .u64 ((rd_T107 l0_3 x31_1).f1.f0), .int .u64 ((rd_T107 l0_3 x31_1).f1.f1), .int .u64 ((rd_T107 l0_3 x31_1).f1.f2), .string ((rd_T107 l0_3 x31_1).f1.f3), .string ((rd_T107 l0_3 x31_1).f1.f4)] 107 (0, 0)) (by (with_reducible repeat (first | refine blk_drewN ?_ _ | refine blk_drew ?_ | refine blk_alloc ?_ _)); refine blk_put (cs := #[.int .i64 ((rd_T107 l0_3 x31_1).f0), .int .u64 ((rd_T107 l0_3 x31_1).f1.f0), .int .u64 ((rd_T107 l0_3 x31_1).f1.f1), .int .u64 ((rd_T107 l0_3 x31_1).f1.f2), .string ((rd_T107 l0_3 x31_1).f1.f3), .string (⟨#[]⟩ : ByteArray)]) ?_ 5 _ rfl; (with_reducible repeat (first | refine blk_drewN ?_ _ | refine blk_drew ?_ | refine blk_alloc ?_ _)); refine blk_put (cs := #[.int .i64 ((rd_T107 l0_3 x31_1).f0), .int .u64 ((rd_T107 l0_3 x31_1).f1.f0), .int .u64 ((rd_T107 l0_3 x31_1).f1.f1), .int .u64 ((rd_T107 l0_3 x31_1).f1.f2), .string (⟨#[]⟩ : ByteArray), .string (⟨#[]⟩ : ByteArray)]) ?_ 4 _ rfl; (with_reducible repeat (first | refine blk_drewN ?_ _ | refine blk_drew ?_ | refine blk_alloc ?_ _)); refine blk_put (cs := #[.int .i64 ((rd_T107 l0_3 x31_1).f0), .int .u64 ((rd_T107 l0_3 x31_1).f1.f0), .int .u64 ((rd_T107 l0_3 x31_1).f1.f1), .int .u64 0, .string (⟨#[]⟩ : ByteArray), .string (⟨#[]⟩ : ByteArray)]) ?_ 3 _ rfl; (with_reducible repeat (first | refine blk_drewN ?_ _ | refine blk_drew ?_ | refine blk_alloc ?_ _)); refine blk_put (cs := #[.int .i64 ((rd_T107 l0_3 x31_1).f0), .int .u64 ((rd_T107 l0_3 x31_1).f1.f0), .int .u64 0, .int .u64 0, .string (⟨#[]⟩ : ByteArray), .string (⟨#[]⟩ : ByteArray)]) ?_ 2 _ rfl; (with_reducible repeat (first | refine blk_drewN ?_ _ | refine blk_drew ?_ | refine blk_alloc ?_ _)); refine blk_put (cs := #[.int .i64 ((rd_T107 l0_3 x31_1).f0), .int .u64 0, .int .u64 0, .int .u64 0, .string (⟨#[]⟩ : ByteArray), .string (⟨#[]⟩ : ByteArray)]) ?_ 1 _ rfl; (with_reducible repeat (first | refine blk_drewN ?_ _ | refine blk_drew ?_ | refine blk_alloc ?_ _)); refine blk_put (cs := #[.int .i64 0, .int .u64 0, .int .u64 0, .int .u64 0, .string (⟨#[]⟩ : ByteArray), .string (⟨#[]⟩ : ByteArray)]) ?_ 0 _ rfl; (with_reducible repeat (first | refine blk_drewN ?_ _ | refine blk_drew ?_ | refine blk_alloc ?_ _)); exact BK108.out) hb); have n2_ := Aside0.mk (below_step (by repeat (first | (with_reducible first | exact HB.out | apply below_alloc | apply pw_below_drewN | apply below_drew1 | refine below_set ?_ GE101.out | refine below_set ?_ GE108.out) | exact HB.out)) hb); have n3_ := Aside0.mk (hbox); have n4_ := Aside0.mk ((by rw [hg]; exact (below_size (by repeat (first | (with_reducible first | exact HB.out | apply below_alloc | apply pw_below_drewN | apply below_drew1 | refine below_set ?_ GE101.out | refine below_set ?_ GE108.out) | exact HB.out))) : w.heap.size ≤ gb109)); have n5_ := Aside0.mk ((by rw [hg]; exact (below_size (by repeat (first | (with_reducible first | exact HB.out | apply below_alloc | apply pw_below_drewN | apply below_drew1 | refine below_set ?_ GE101.out | refine below_set ?_ GE108.out) | exact HB.out))) : w.heap.size ≤ gb109)); have n6_ := Aside0.mk ((by rw [hg]; exact Nat.ne_of_lt (blk_lt (g := gb101) (o := .cells #[.int .u64 a0_0, .int .u64 a0_1, .int .u64 a0_2, .slice (some ad107) l0_3.length c0_3, .slice A0_4 l0_4.length c0_4] 26 (0, 0)) (by (with_reducible repeat (first | refine blk_drewN ?_ _ | refine blk_drew ?_ | refine blk_alloc ?_ _)); refine blk_far ?_ NB101_108.out _; (with_reducible repeat (first | refine blk_drewN ?_ _ | refine blk_drew ?_ | refine blk_alloc ?_ _)); refine blk_far ?_ NB101_108.out _; (with_reducible repeat (first | refine blk_drewN ?_ _ | refine blk_drew ?_ | refine blk_alloc ?_ _)); refine blk_far ?_ NB101_108.out _; (with_reducible repeat (first | refine blk_drewN ?_ _ | refine blk_drew ?_ | refine blk_alloc ?_ _)); refine blk_far ?_ NB101_108.out _; (with_reducible repeat (first | refine blk_drewN ?_ _ | refine blk_drew ?_ | refine blk_alloc ?_ _)); refine blk_far ?_ NB101_108.out _; (with_reducible repeat (first | refine blk_drewN ?_ _ | refine blk_drew ?_ | refine blk_alloc ?_ _)); refine blk_far ?_ NB101_108.out _; (with_reducible repeat (first | refine blk_drewN ?_ _ | refine blk_drew ?_ | refine blk_alloc ?_ _)); exact BK101.out)) : gb101 ≠ gb109)); have n7_ := Aside0.mk ((by rw [hg]; exact Nat.ne_of_gt (blk_lt (g := gb101) (o := .cells #[.int .u64 a0_0, .int .u64 a0_1, .int .u64 a0_2, .slice (some ad107) l0_3.length c0_3, .slice A0_4 l0_4.length c0_4] 26 (0, 0)) (by (with_reducible repeat (first | refine blk_drewN ?_ _ | refine blk_drew ?_ | refine blk_alloc ?_ _)); refine blk_far ?_ NB101_108.out _; (with_reducible repeat (first | refine blk_drewN ?_ _ | refine blk_drew ?_ | refine blk_alloc ?_ _)); refine blk_far ?_ NB101_108.out _; (with_reducible repeat (first | refine blk_drewN ?_ _ | refine blk_drew ?_ | refine blk_alloc ?_ _)); refine blk_far ?_ NB101_108.out _; (with_reducible repeat (first | refine blk_drewN ?_ _ | refine blk_drew ?_ | refine blk_alloc ?_ _)); refine blk_far ?_ NB101_108.out _; (with_reducible repeat (first | refine blk_drewN ?_ _ | refine blk_drew ?_ | refine blk_alloc ?_ _)); refine blk_far ?_ NB101_108.out _; (with_reducible repeat (first | refine blk_drewN ?_ _ | refine blk_drew ?_ | refine blk_alloc ?_ _)); refine blk_far ?_ NB101_108.out _; (with_reducible repeat (first | refine blk_drewN ?_ _ | refine blk_drew ?_ | refine blk_alloc ?_ _)); exact BK101.out)) : gb109 ≠ gb101)); have n8_ := Aside0.mk ((by rw [hg]; exact Nat.ne_of_lt (blk_lt (g := gb108) (o := .cells #[.int .i64 ((rd_T107 l0_3 x31_1).f0), .int .u64 ((rd_T107 l0_3 x31_1).f1.f0), .int .u64 ((rd_T107 l0_3 x31_1).f1.f1), .int .u64 ((rd_T107 l0_3 x31_1).f1.f2), .string ((rd_T107 l0_3 x31_1).f1.f3), .string ((rd_T107 l0_3 x31_1).f1.f4)] 107 (0, 0)) (by (with_reducible repeat (first | refine blk_drewN ?_ _ | refine blk_drew ?_ | refine blk_alloc ?_ _)); refine blk_put (cs := #[.int .i64 ((rd_T107 l0_3 x31_1).f0), .int .u64 ((rd_T107 l0_3 x31_1).f1.f0), .int .u64 ((rd_T107 l0_3 x31_1).f1.f1), .int .u64 ((rd_T107 l0_3 x31_1).f1.f2), .string ((rd_T107 l0_3 x31_1).f1.f3), .string (⟨#[]⟩ : ByteArray)]) ?_ 5 _ rfl; (with_reducible repeat (first | refine blk_drewN ?_ _ | refine blk_drew ?_ | refine blk_alloc ?_ _)); refine blk_put (cs := #[.int .i64 ((rd_T107 l0_3 x31_1).f0), .int .u64 ((rd_T107 l0_3 x31_1).f1.f0), .int .u64 ((rd_T107 l0_3 x31_1).f1.f1), .int .u64 ((rd_T107 l0_3 x31_1).f1.f2), .string (⟨#[]⟩ : ByteArray), .string (⟨#[]⟩ : ByteArray)]) ?_ 4 _ rfl; (with_reducible repeat (first | refine blk_drewN ?_ _ | refine blk_drew ?_ | refine blk_alloc ?_ _)); refine blk_put (cs := #[.int .i64 ((rd_T107 l0_3 x31_1).f0), .int .u64 ((rd_T107 l0_3 x31_1).f1.f0), .int .u64 ((rd_T107 l0_3 x31_1).f1.f1), .int .u64 0, .string (⟨#[]⟩ : ByteArray), .string (⟨#[]⟩ : ByteArray)]) ?_ 3 _ rfl; (with_reducible repeat (first | refine blk_drewN ?_ _ | refine blk_drew ?_ | refine blk_alloc ?_ _)); refine blk_put (cs := #[.int .i64 ((rd_T107 l0_3 x31_1).f0), .int .u64 ((rd_T107 l0_3 x31_1).f1.f0), .int .u64 0, .int .u64 0, .string (⟨#[]⟩ : ByteArray), .string (⟨#[]⟩ : ByteArray)]) ?_ 2 _ rfl; (with_reducible repeat (first | refine blk_drewN ?_ _ | refine blk_drew ?_ | refine blk_alloc ?_ _)); refine blk_put (cs := #[.int .i64 ((rd_T107 l0_3 x31_1).f0), .int .u64 0, .int .u64 0, .int .u64 0, .string (⟨#[]⟩ : ByteArray), .string (⟨#[]⟩ : ByteArray)]) ?_ 1 _ rfl; (with_reducible repeat (first | refine blk_drewN ?_ _ | refine blk_drew ?_ | refine blk_alloc ?_ _)); refine blk_put (cs := #[.int .i64 0, .int .u64 0, .int .u64 0, .int .u64 0, .string (⟨#[]⟩ : ByteArray), .string (⟨#[]⟩ : ByteArray)]) ?_ 0 _ rfl; (with_reducible repeat (first | refine blk_drewN ?_ _ | refine blk_drew ?_ | refine blk_alloc ?_ _)); exact BK108.out)) : gb108 ≠ gb109)); have n9_ := Aside0.mk ((by rw [hg]; exact Nat.ne_of_gt (blk_lt (g := gb108) (o := .cells #[.int .i64 ((rd_T107 l0_3 x31_1).f0), .int .u64 ((rd_T107 l0_3 x31_1).f1.f0), .int .u64 ((rd_T107 l0_3 x31_1).f1.f1), .int .u64 ((rd_T107 l0_3 x31_1).f1.f2), .string ((rd_T107 l0_3 x31_1).f1.f3), .string ((rd_T107 l0_3 x31_1).f1.f4)] 107 (0, 0)) (by (with_reducible repeat (first | refine blk_drewN ?_ _ | refine blk_drew ?_ | refine blk_alloc ?_ _)); refine blk_put (cs := #[.int .i64 ((rd_T107 l0_3 x31_1).f0), .int .u64 ((rd_T107 l0_3 x31_1).f1.f0), .int .u64 ((rd_T107 l0_3 x31_1).f1.f1), .int .u64 ((rd_T107 l0_3 x31_1).f1.f2), .string ((rd_T107 l0_3 x31_1).f1.f3), .string (⟨#[]⟩ : ByteArray)]) ?_ 5 _ rfl; (with_reducible repeat (first | refine blk_drewN ?_ _ | refine blk_drew ?_ | refine blk_alloc ?_ _)); refine blk_put (cs := #[.int .i64 ((rd_T107 l0_3 x31_1).f0), .int .u64 ((rd_T107 l0_3 x31_1).f1.f0), .int .u64 ((rd_T107 l0_3 x31_1).f1.f1), .int .u64 ((rd_T107 l0_3 x31_1).f1.f2), .string (⟨#[]⟩ : ByteArray), .string (⟨#[]⟩ : ByteArray)]) ?_ 4 _ rfl; (with_reducible repeat (first | refine blk_drewN ?_ _ | refine blk_drew ?_ | refine blk_alloc ?_ _)); refine blk_put (cs := #[.int .i64 ((rd_T107 l0_3 x31_1).f0), .int .u64 ((rd_T107 l0_3 x31_1).f1.f0), .int .u64 ((rd_T107 l0_3 x31_1).f1.f1), .int .u64 0, .string (⟨#[]⟩ : ByteArray), .string (⟨#[]⟩ : ByteArray)]) ?_ 3 _ rfl; (with_reducible repeat (first | refine blk_drewN ?_ _ | refine blk_drew ?_ | refine blk_alloc ?_ _)); refine blk_put (cs := #[.int .i64 ((rd_T107 l0_3 x31_1).f0), .int .u64 ((rd_T107 l0_3 x31_1).f1.f0), .int .u64 0, .int .u64 0, .string (⟨#[]⟩ : ByteArray), .string (⟨#[]⟩ : ByteArray)]) ?_ 2 _ rfl; (with_reducible repeat (first | refine blk_drewN ?_ _ | refine blk_drew ?_ | refine blk_alloc ?_ _)); refine blk_put (cs := #[.int .i64 ((rd_T107 l0_3 x31_1).f0), .int .u64 0, .int .u64 0, .int .u64 0, .string (⟨#[]⟩ : ByteArray), .string (⟨#[]⟩ : ByteArray)]) ?_ 1 _ rfl; (with_reducible repeat (first | refine blk_drewN ?_ _ | refine blk_drew ?_ | refine blk_alloc ?_ _)); refine blk_put (cs := #[.int .i64 0, .int .u64 0, .int .u64 0, .int .u64 0, .string (⟨#[]⟩ : ByteArray), .string (⟨#[]⟩ : ByteArray)]) ?_ 0 _ rfl; (with_reducible repeat (first | refine blk_drewN ?_ _ | refine blk_drew ?_ | refine blk_alloc ?_ _)); exact BK108.out)) : gb109 ≠ gb108)); clear BK101; clear BK108; clear HB; have BK101 := n0_; have BK108 := n1_; have HB := n2_; have BK109 := n3_; have GW109 := n4_; have GE109 := n5_; have NB101_109 := n6_; have NB109_101 := n7_; have NB108_109 := n8_; have NB109_108 := n9_; clear n0_ n1_ n2_ n3_ n4_ n5_ n6_ n7_ n8_ n9_; clear hb hbox hg; have hnb27 := NB109_101.out; have hnc27 := NB101_109.out; have hnb28 := NB109_108.out; have hnc28 := NB108_109.out; have hcz29_0 : w26.cell? ⟨gb109, 0, none⟩ = some (.int .u64 0) := (blk_cell BK109.out 0).trans rfl; have hcz29_1 : w26.cell? ⟨gb109, 1, none⟩ = some (.int .u64 0) := (blk_cell BK109.out 1).trans rfl; have hcz29_2 : w26.cell? ⟨gb109, 2, none⟩ = some (.int .u64 0) := (blk_cell BK109.out 2).trans rfl; have hcz29_3 : w26.cell? ⟨gb109, 3, none⟩ = some (.string (⟨#[]⟩ : ByteArray)) := (blk_cell BK109.out 3).trans rfl; have hcz29_4 : w26.cell? ⟨gb109, 4, none⟩ = some (.string (⟨#[]⟩ : ByteArray)) := (blk_cell BK109.out 4).trans rfl; have hfz29_0 := blk_frozen BK109.out 0; have hfz29_1 := blk_frozen BK109.out 1; have hfz29_2 := blk_frozen BK109.out 2; have hfz29_3 := blk_frozen BK109.out 3; have hfz29_4 := blk_frozen BK109.out 4))
                    have n0_ : Aside0 ((((((w26.setCell ⟨gb109, 0, none⟩ (.int .u64 ((rd_T107 l0_3 x31_1).f1.f0))).setCell ⟨gb109, 1, none⟩ (.int .u64 ((rd_T107 l0_3 x31_1).f1.f1))).setCell ⟨gb109, 2, none⟩ (.int .u64 ((rd_T107 l0_3 x31_1).f1.f2))).setCell ⟨gb109, 3, none⟩ (.string ((rd_T107 l0_3 x31_1).f1.f3))).setCell ⟨gb109, 4, none⟩ (.string ((rd_T107 l0_3 x31_1).f1.f4))).heap[gb101]? = some (.cells #[.int .u64 a0_0, .int .u64 a0_1, .int .u64 a0_2, .slice (some ad107) l0_3.length c0_3, .slice A0_4 l0_4.length c0_4] 26 (0, 0))) := ⟨by (with_reducible repeat (first | refine blk_drewN ?_ _ | refine blk_drew ?_ | refine blk_alloc ?_ _)); refine blk_far ?_ NB101_109.out _; (with_reducible repeat (first | refine blk_drewN ?_ _ | refine blk_drew ?_ | refine blk_alloc ?_ _)); refine blk_far ?_ NB101_109.out _; (with_reducible repeat (first | refine blk_drewN ?_ _ | refine blk_drew ?_ | refine blk_alloc ?_ _)); refine blk_far ?_ NB101_109.out _; (with_reducible repeat (first | refine blk_drewN ?_ _ | refine blk_drew ?_ | refine blk_alloc ?_ _)); refine blk_far ?_ NB101_109.out _; (with_reducible repeat (first | refine blk_drewN ?_ _ | refine blk_drew ?_ | refine blk_alloc ?_ _)); refine blk_far ?_ NB101_109.out _; (with_reducible repeat (first | refine blk_drewN ?_ _ | refine blk_drew ?_ | refine blk_alloc ?_ _)); exact BK101.out⟩
                    have n1_ : Aside0 ((((((w26.setCell ⟨gb109, 0, none⟩ (.int .u64 ((rd_T107 l0_3 x31_1).f1.f0))).setCell ⟨gb109, 1, none⟩ (.int .u64 ((rd_T107 l0_3 x31_1).f1.f1))).setCell ⟨gb109, 2, none⟩ (.int .u64 ((rd_T107 l0_3 x31_1).f1.f2))).setCell ⟨gb109, 3, none⟩ (.string ((rd_T107 l0_3 x31_1).f1.f3))).setCell ⟨gb109, 4, none⟩ (.string ((rd_T107 l0_3 x31_1).f1.f4))).heap[gb108]? = some (.cells #[.int .i64 ((rd_T107 l0_3 x31_1).f0), .int .u64 ((rd_T107 l0_3 x31_1).f1.f0), .int .u64 ((rd_T107 l0_3 x31_1).f1.f1), .int .u64 ((rd_T107 l0_3 x31_1).f1.f2), .string ((rd_T107 l0_3 x31_1).f1.f3), .string ((rd_T107 l0_3 x31_1).f1.f4)] 107 (0, 0))) := ⟨by (with_reducible repeat (first | refine blk_drewN ?_ _ | refine blk_drew ?_ | refine blk_alloc ?_ _)); refine blk_far ?_ NB108_109.out _; (with_reducible repeat (first | refine blk_drewN ?_ _ | refine blk_drew ?_ | refine blk_alloc ?_ _)); refine blk_far ?_ NB108_109.out _; (with_reducible repeat (first | refine blk_drewN ?_ _ | refine blk_drew ?_ | refine blk_alloc ?_ _)); refine blk_far ?_ NB108_109.out _; (with_reducible repeat (first | refine blk_drewN ?_ _ | refine blk_drew ?_ | refine blk_alloc ?_ _)); refine blk_far ?_ NB108_109.out _; (with_reducible repeat (first | refine blk_drewN ?_ _ | refine blk_drew ?_ | refine blk_alloc ?_ _)); refine blk_far ?_ NB108_109.out _; (with_reducible repeat (first | refine blk_drewN ?_ _ | refine blk_drew ?_ | refine blk_alloc ?_ _)); exact BK108.out⟩
                    have n2_ : Aside0 ((((((w26.setCell ⟨gb109, 0, none⟩ (.int .u64 ((rd_T107 l0_3 x31_1).f1.f0))).setCell ⟨gb109, 1, none⟩ (.int .u64 ((rd_T107 l0_3 x31_1).f1.f1))).setCell ⟨gb109, 2, none⟩ (.int .u64 ((rd_T107 l0_3 x31_1).f1.f2))).setCell ⟨gb109, 3, none⟩ (.string ((rd_T107 l0_3 x31_1).f1.f3))).setCell ⟨gb109, 4, none⟩ (.string ((rd_T107 l0_3 x31_1).f1.f4))).heap[gb109]? = some (.cells #[.int .u64 ((rd_T107 l0_3 x31_1).f1.f0), .int .u64 ((rd_T107 l0_3 x31_1).f1.f1), .int .u64 ((rd_T107 l0_3 x31_1).f1.f2), .string ((rd_T107 l0_3 x31_1).f1.f3), .string ((rd_T107 l0_3 x31_1).f1.f4)] 97 (0, 0))) := ⟨by (with_reducible repeat (first | refine blk_drewN ?_ _ | refine blk_drew ?_ | refine blk_alloc ?_ _)); refine blk_put (cs := #[.int .u64 ((rd_T107 l0_3 x31_1).f1.f0), .int .u64 ((rd_T107 l0_3 x31_1).f1.f1), .int .u64 ((rd_T107 l0_3 x31_1).f1.f2), .string ((rd_T107 l0_3 x31_1).f1.f3), .string (⟨#[]⟩ : ByteArray)]) ?_ 4 _ rfl; (with_reducible repeat (first | refine blk_drewN ?_ _ | refine blk_drew ?_ | refine blk_alloc ?_ _)); refine blk_put (cs := #[.int .u64 ((rd_T107 l0_3 x31_1).f1.f0), .int .u64 ((rd_T107 l0_3 x31_1).f1.f1), .int .u64 ((rd_T107 l0_3 x31_1).f1.f2), .string (⟨#[]⟩ : ByteArray), .string (⟨#[]⟩ : ByteArray)]) ?_ 3 _ rfl; (with_reducible repeat (first | refine blk_drewN ?_ _ | refine blk_drew ?_ | refine blk_alloc ?_ _)); refine blk_put (cs := #[.int .u64 ((rd_T107 l0_3 x31_1).f1.f0), .int .u64 ((rd_T107 l0_3 x31_1).f1.f1), .int .u64 0, .string (⟨#[]⟩ : ByteArray), .string (⟨#[]⟩ : ByteArray)]) ?_ 2 _ rfl; (with_reducible repeat (first | refine blk_drewN ?_ _ | refine blk_drew ?_ | refine blk_alloc ?_ _)); refine blk_put (cs := #[.int .u64 ((rd_T107 l0_3 x31_1).f1.f0), .int .u64 0, .int .u64 0, .string (⟨#[]⟩ : ByteArray), .string (⟨#[]⟩ : ByteArray)]) ?_ 1 _ rfl; (with_reducible repeat (first | refine blk_drewN ?_ _ | refine blk_drew ?_ | refine blk_alloc ?_ _)); refine blk_put (cs := #[.int .u64 0, .int .u64 0, .int .u64 0, .string (⟨#[]⟩ : ByteArray), .string (⟨#[]⟩ : ByteArray)]) ?_ 0 _ rfl; (with_reducible repeat (first | refine blk_drewN ?_ _ | refine blk_drew ?_ | refine blk_alloc ?_ _)); exact BK109.out⟩
                    have n3_ : Aside0 (Below w.heap.size w (((((w26.setCell ⟨gb109, 0, none⟩ (.int .u64 ((rd_T107 l0_3 x31_1).f1.f0))).setCell ⟨gb109, 1, none⟩ (.int .u64 ((rd_T107 l0_3 x31_1).f1.f1))).setCell ⟨gb109, 2, none⟩ (.int .u64 ((rd_T107 l0_3 x31_1).f1.f2))).setCell ⟨gb109, 3, none⟩ (.string ((rd_T107 l0_3 x31_1).f1.f3))).setCell ⟨gb109, 4, none⟩ (.string ((rd_T107 l0_3 x31_1).f1.f4)))) := ⟨by repeat (first | (with_reducible first | exact HB.out | apply below_alloc | apply pw_below_drewN | apply below_drew1 | refine below_set ?_ GE101.out | refine below_set ?_ GE108.out | refine below_set ?_ GE109.out) | exact HB.out)⟩
                    (try clear BK101)
                    (try clear BK108)
                    (try clear BK109)
                    (try clear HB)
                    generalize (((((w26.setCell ⟨gb109, 0, none⟩ (.int .u64 ((rd_T107 l0_3 x31_1).f1.f0))).setCell ⟨gb109, 1, none⟩ (.int .u64 ((rd_T107 l0_3 x31_1).f1.f1))).setCell ⟨gb109, 2, none⟩ (.int .u64 ((rd_T107 l0_3 x31_1).f1.f2))).setCell ⟨gb109, 3, none⟩ (.string ((rd_T107 l0_3 x31_1).f1.f3))).setCell ⟨gb109, 4, none⟩ (.string ((rd_T107 l0_3 x31_1).f1.f4))) = w30 at n0_ n1_ n2_ n3_ ⊢
                    have BK101 := n0_
                    have BK108 := n1_
                    have BK109 := n2_
                    have HB := n3_
                    clear n0_ n1_ n2_ n3_
                    have n0_ := Aside0.mk (blk_drew BK101.out)
                    have n1_ := Aside0.mk (blk_drew BK108.out)
                    have n2_ := Aside0.mk (blk_drew BK109.out)
                    have n3_ := Aside0.mk (below_drew1 HB.out)
                    clear BK101
                    clear BK108
                    clear BK109
                    clear HB
                    have BK101 := n0_
                    have BK108 := n1_
                    have BK109 := n2_
                    have HB := n3_
                    clear n0_ n1_ n2_ n3_
                    refine start_ (n := 22) (S := fun w' => w'.cell? ⟨gb108, 0, none⟩ = some (.int .i64 ((rd_T107 l0_3 x31_1).f0)) ∧ w'.cell? ⟨gb108, 1, none⟩ = some (.int .u64 ((rd_T107 l0_3 x31_1).f1.f0)) ∧ w'.cell? ⟨gb108, 2, none⟩ = some (.int .u64 ((rd_T107 l0_3 x31_1).f1.f1)) ∧ w'.cell? ⟨gb108, 3, none⟩ = some (.int .u64 ((rd_T107 l0_3 x31_1).f1.f2)) ∧ w'.cell? ⟨gb108, 4, none⟩ = some (.string ((rd_T107 l0_3 x31_1).f1.f3)) ∧ w'.cell? ⟨gb108, 5, none⟩ = some (.string ((rd_T107 l0_3 x31_1).f1.f4)) ∧ w'.cell? ⟨gb109, 0, none⟩ = some (.int .u64 ((rd_T107 l0_3 x31_1).f1.f0)) ∧ w'.cell? ⟨gb109, 1, none⟩ = some (.int .u64 ((rd_T107 l0_3 x31_1).f1.f1)) ∧ w'.cell? ⟨gb109, 2, none⟩ = some (.int .u64 ((rd_T107 l0_3 x31_1).f1.f2)) ∧ w'.cell? ⟨gb109, 3, none⟩ = some (.string ((rd_T107 l0_3 x31_1).f1.f3)) ∧ w'.cell? ⟨gb109, 4, none⟩ = some (.string ((rd_T107 l0_3 x31_1).f1.f4))) (ds := []) #[false, false, false, false, false, false, false, false, false, false, false, false, false, false, false, false, false, false, false, false, false, false] (by kernel_rfl) rfl rfl ⟨(blk_cell BK108.out 0).trans rfl, (blk_cell BK108.out 1).trans rfl, (blk_cell BK108.out 2).trans rfl, (blk_cell BK108.out 3).trans rfl, (blk_cell BK108.out 4).trans rfl, (blk_cell BK108.out 5).trans rfl, (blk_cell BK109.out 0).trans rfl, (blk_cell BK109.out 1).trans rfl, (blk_cell BK109.out 2).trans rfl, (blk_cell BK109.out 3).trans rfl, (blk_cell BK109.out 4).trans rfl⟩ (fun hHeld => ?_); refine with_tabW edit_Edit_Bytes.tab9 edit_Edit_Bytes.bits9 (fun HT_ HW_ => ?_)
                    generalize w30.drew = w31 at BK101 BK108 BK109 HB hHeld ⊢
                    refine pure_ (i := 0) (N := some 37) (v := ?_) (a' := ?_) #[true, false, false, false, false, false, false, false, false, false, false, false, false, false, false, false, false, false, false, false, false, false] rfl rfl (any_of HT_.out (by kernel_rfl)) (fun _ _ _ h => h) (Or.inl ⟨by rfl, ?_⟩) ?_ ?_
                    rotate_left
                    · intro w'
                      go_simp
                      with_reducible rfl
                    rotate_left
                    · simp only [Act.put, List.setIfInBounds_toArray, List.set_cons_zero, List.set_cons_succ, i64_w, i32_w]
                      rfl
                    refine pure_ (i := 1) (N := some 38) (v := ?_) (a' := ?_) #[true, true, false, false, false, false, false, false, false, false, false, false, false, false, false, false, false, false, false, false, false, false] rfl rfl (any_of HT_.out (by kernel_rfl)) (fun _ _ _ h => h) (Or.inl ⟨by rfl, ?_⟩) ?_ ?_
                    rotate_left
                    · intro w'
                      go_simp
                      with_reducible rfl
                    rotate_left
                    · simp only [Act.put, List.setIfInBounds_toArray, List.set_cons_zero, List.set_cons_succ, i64_w, i32_w]
                      rfl
                    refine pure_ (i := 4) (N := some 41) (v := ?_) (a' := ?_) #[true, true, false, false, true, false, false, false, false, false, false, false, false, false, false, false, false, false, false, false, false, false] rfl rfl (any_of HT_.out (by kernel_rfl)) (fun _ _ _ h => h) (Or.inl ⟨by rfl, ?_⟩) ?_ ?_
                    rotate_left
                    · intro w'
                      go_simp
                      with_reducible rfl
                    rotate_left
                    · simp only [Act.put, List.setIfInBounds_toArray, List.set_cons_zero, List.set_cons_succ, i64_w, i32_w]
                      rfl
                    refine pure_ (i := 6) (N := some 43) (v := ?_) (a' := ?_) #[true, true, false, false, true, false, true, false, false, false, false, false, false, false, false, false, false, false, false, false, false, false] rfl rfl (any_of HT_.out (by kernel_rfl)) (fun _ _ _ h => h) (Or.inl ⟨by rfl, ?_⟩) ?_ ?_
                    rotate_left
                    · intro w'
                      go_simp
                      with_reducible rfl
                    rotate_left
                    · simp only [Act.put, List.setIfInBounds_toArray, List.set_cons_zero, List.set_cons_succ, i64_w, i32_w]
                      rfl
                    refine pure_ (i := 8) (N := some 45) (v := ?_) (a' := ?_) #[true, true, false, false, true, false, true, false, true, false, false, false, false, false, false, false, false, false, false, false, false, false] rfl rfl (any_of HT_.out (by kernel_rfl)) (fun _ _ _ h => h) (Or.inl ⟨by rfl, ?_⟩) ?_ ?_
                    rotate_left
                    · intro w'
                      go_simp
                      with_reducible rfl
                    rotate_left
                    · simp only [Act.put, List.setIfInBounds_toArray, List.set_cons_zero, List.set_cons_succ, i64_w, i32_w]
                      rfl
                    refine pure_ (i := 12) (N := some 49) (v := ?_) (a' := ?_) #[true, true, false, false, true, false, true, false, true, false, false, false, true, false, false, false, false, false, false, false, false, false] rfl rfl (any_of HT_.out (by kernel_rfl)) (fun _ _ _ h => h) (Or.inl ⟨by rfl, ?_⟩) ?_ ?_
                    rotate_left
                    · intro w'
                      go_simp
                      with_reducible rfl
                    rotate_left
                    · simp only [Act.put, List.setIfInBounds_toArray, List.set_cons_zero, List.set_cons_succ, i64_w, i32_w]
                      rfl
                    refine pure_ (i := 16) (N := some 53) (v := ?_) (a' := ?_) #[true, true, false, false, true, false, true, false, true, false, false, false, true, false, false, false, true, false, false, false, false, false] rfl rfl (any_of HT_.out (by kernel_rfl)) (fun _ _ _ h => h) (Or.inl ⟨by rfl, ?_⟩) ?_ ?_
                    rotate_left
                    · intro w'
                      go_simp
                      with_reducible rfl
                    rotate_left
                    · simp only [Act.put, List.setIfInBounds_toArray, List.set_cons_zero, List.set_cons_succ, i64_w, i32_w]
                      rfl
                    refine take_ (i := 2) (N := some 39) (v := ?_) (a' := ?_) #[true, true, true, false, true, false, true, false, true, false, false, false, true, false, false, false, true, false, false, false, false, false] rfl rfl (take_ofW HT_.out HW_.out (by kernel_rfl)) (fun _ _ _ h => h) (Or.inl ⟨by rfl, ?_⟩) hHeld ?_ ?_
                    rotate_left
                    · rintro w' ⟨s0, s1, s2, s3, s4, s5, s6, s7, s8, s9, s10⟩
                      go_simp
                      with_reducible rfl
                    rotate_left
                    · simp only [Act.put, List.setIfInBounds_toArray, List.set_cons_zero, List.set_cons_succ, i64_w, i32_w]
                      rfl
                    refine pure_ (i := 3) (N := some 40) (v := ?_) (a' := ?_) #[true, true, true, true, true, false, true, false, true, false, false, false, true, false, false, false, true, false, false, false, false, false] rfl rfl (any_of HT_.out (by kernel_rfl)) (fun _ _ _ h => h) (Or.inl ⟨by rfl, ?_⟩) ?_ ?_
                    rotate_left
                    · intro w'
                      go_simp
                      with_reducible rfl
                    rotate_left
                    · simp only [Act.put, List.setIfInBounds_toArray, List.set_cons_zero, List.set_cons_succ, i64_w, i32_w]
                      rfl
                    refine take_ (i := 5) (N := some 42) (v := ?_) (a' := ?_) #[true, true, true, true, true, true, true, false, true, false, false, false, true, false, false, false, true, false, false, false, false, false] rfl rfl (take_ofW HT_.out HW_.out (by kernel_rfl)) (fun _ _ _ h => h) (Or.inl ⟨by rfl, ?_⟩) hHeld ?_ ?_
                    rotate_left
                    · rintro w' ⟨s0, s1, s2, s3, s4, s5, s6, s7, s8, s9, s10⟩
                      go_simp
                      with_reducible rfl
                    rotate_left
                    · simp only [Act.put, List.setIfInBounds_toArray, List.set_cons_zero, List.set_cons_succ, i64_w, i32_w]
                      rfl
                    refine take_ (i := 7) (N := some 44) (v := ?_) (a' := ?_) #[true, true, true, true, true, true, true, true, true, false, false, false, true, false, false, false, true, false, false, false, false, false] rfl rfl (take_ofW HT_.out HW_.out (by kernel_rfl)) (fun _ _ _ h => h) (Or.inl ⟨by rfl, ?_⟩) hHeld ?_ ?_
                    rotate_left
                    · rintro w' ⟨s0, s1, s2, s3, s4, s5, s6, s7, s8, s9, s10⟩
                      go_simp
                      with_reducible rfl
                    rotate_left
                    · simp only [Act.put, List.setIfInBounds_toArray, List.set_cons_zero, List.set_cons_succ, i64_w, i32_w]
                      rfl
                    refine take_ (i := 9) (N := some 46) (v := ?_) (a' := ?_) #[true, true, true, true, true, true, true, true, true, true, false, false, true, false, false, false, true, false, false, false, false, false] rfl rfl (take_ofW HT_.out HW_.out (by kernel_rfl)) (fun _ _ _ h => h) (Or.inl ⟨by rfl, ?_⟩) hHeld ?_ ?_
                    rotate_left
                    · rintro w' ⟨s0, s1, s2, s3, s4, s5, s6, s7, s8, s9, s10⟩
                      go_simp
                      with_reducible rfl
                    rotate_left
                    · simp only [Act.put, List.setIfInBounds_toArray, List.set_cons_zero, List.set_cons_succ, i64_w, i32_w]
                      rfl
                    refine take_ (i := 13) (N := some 50) (v := ?_) (a' := ?_) #[true, true, true, true, true, true, true, true, true, true, false, false, true, true, false, false, true, false, false, false, false, false] rfl rfl (take_ofW HT_.out HW_.out (by kernel_rfl)) (fun _ _ _ h => h) (Or.inl ⟨by rfl, ?_⟩) hHeld ?_ ?_
                    rotate_left
                    · rintro w' ⟨s0, s1, s2, s3, s4, s5, s6, s7, s8, s9, s10⟩
                      go_simp
                      with_reducible rfl
                    rotate_left
                    · simp only [Act.put, List.setIfInBounds_toArray, List.set_cons_zero, List.set_cons_succ, i64_w, i32_w]
                      rfl
                    refine take_ (i := 17) (N := some 54) (v := ?_) (a' := ?_) #[true, true, true, true, true, true, true, true, true, true, false, false, true, true, false, false, true, true, false, false, false, false] rfl rfl (take_ofW HT_.out HW_.out (by kernel_rfl)) (fun _ _ _ h => h) (Or.inl ⟨by rfl, ?_⟩) hHeld ?_ ?_
                    rotate_left
                    · rintro w' ⟨s0, s1, s2, s3, s4, s5, s6, s7, s8, s9, s10⟩
                      go_simp
                      with_reducible rfl
                    rotate_left
                    · simp only [Act.put, List.setIfInBounds_toArray, List.set_cons_zero, List.set_cons_succ, i64_w, i32_w]
                      rfl
                    refine one_ (i := 10) (N := some 47) #[true, true, true, true, true, true, true, true, true, true, true, false, true, true, false, false, true, true, false, false, false, false] rfl rfl (one_of HT_.out (by kernel_rfl)) (by decide) (fun K hK => ?_)
                    refine Kd.R_lit_step (Kd.int .u64) _ 22 ?hg (N := 47) ?hd (xs := ([IntKind.u64.wrap ((rd_T107 l0_3 x31_1).f0), (rd_T107 l0_3 x31_1).f1.f0, (rd_T107 l0_3 x31_1).f1.f1, (rd_T107 l0_3 x31_1).f1.f2] : List Int)) (inner := [.int .u64 (IntKind.u64.wrap ((rd_T107 l0_3 x31_1).f0)), .int .u64 ((rd_T107 l0_3 x31_1).f1.f0), .int .u64 ((rd_T107 l0_3 x31_1).f1.f1), .int .u64 ((rd_T107 l0_3 x31_1).f1.f2)]) (ok := fun _ => True) (okp := fun _ => True) ?hr ?hp (fun _ hk => hk) trivial (Below.refl _ _) (Nat.le_refl _) (by simp) ?_; (case hd => rfl); (case hg => rfl); (case hr => first | (go_simp; done) | (go_simp; rfl)); (case hp => exact (Reps.one (show Kd.M (Kd.int .u64) _ _ _ (IntKind.u64.wrap ((rd_T107 l0_3 x31_1).f0)) [.int .u64 (IntKind.u64.wrap ((rd_T107 l0_3 x31_1).f0))] from rfl) (Reps.one (show Kd.M (Kd.int .u64) _ _ _ ((rd_T107 l0_3 x31_1).f1.f0) [.int .u64 ((rd_T107 l0_3 x31_1).f1.f0)] from rfl) (Reps.one (show Kd.M (Kd.int .u64) _ _ _ ((rd_T107 l0_3 x31_1).f1.f1) [.int .u64 ((rd_T107 l0_3 x31_1).f1.f1)] from rfl) (Reps.one (show Kd.M (Kd.int .u64) _ _ _ ((rd_T107 l0_3 x31_1).f1.f2) [.int .u64 ((rd_T107 l0_3 x31_1).f1.f2)] from rfl) (Reps.none _ _))))))
                    intro v111 w32 ho33 hb hg_ hnew_
                    clear hg_ hnew_
                    (first | rw [← Ny110.out] at ho33 | (simp only [Int.reduceToNat] at ho33; rw [← Ny110.out] at ho33))
                    have n0_ := Aside0.mk (Kd.R_lower ho33 (below_size (by repeat (first | (with_reducible first | exact HB.out | apply below_alloc | apply pw_below_drewN | apply below_drew1 | refine below_set ?_ GE101.out | refine below_set ?_ GE108.out | refine below_set ?_ GE109.out) | exact HB.out))))
                    have n1_ := Aside0.mk (blk_below (g := gb101) (o := .cells #[.int .u64 a0_0, .int .u64 a0_1, .int .u64 a0_2, .slice (some ad107) l0_3.length c0_3, .slice A0_4 l0_4.length c0_4] 26 (0, 0)) (by (with_reducible repeat (first | refine blk_drewN ?_ _ | refine blk_drew ?_ | refine blk_alloc ?_ _)); exact BK101.out) hb)
                    have n2_ := Aside0.mk (blk_below (g := gb108) (o := .cells #[.int .i64 ((rd_T107 l0_3 x31_1).f0), .int .u64 ((rd_T107 l0_3 x31_1).f1.f0), .int .u64 ((rd_T107 l0_3 x31_1).f1.f1), .int .u64 ((rd_T107 l0_3 x31_1).f1.f2), .string ((rd_T107 l0_3 x31_1).f1.f3), .string ((rd_T107 l0_3 x31_1).f1.f4)] 107 (0, 0)) (by (with_reducible repeat (first | refine blk_drewN ?_ _ | refine blk_drew ?_ | refine blk_alloc ?_ _)); exact BK108.out) hb)
                    have n3_ := Aside0.mk (blk_below (g := gb109) (o := .cells #[.int .u64 ((rd_T107 l0_3 x31_1).f1.f0), .int .u64 ((rd_T107 l0_3 x31_1).f1.f1), .int .u64 ((rd_T107 l0_3 x31_1).f1.f2), .string ((rd_T107 l0_3 x31_1).f1.f3), .string ((rd_T107 l0_3 x31_1).f1.f4)] 97 (0, 0)) (by (with_reducible repeat (first | refine blk_drewN ?_ _ | refine blk_drew ?_ | refine blk_alloc ?_ _)); exact BK109.out) hb)
                    have n4_ := Aside0.mk (below_step (by repeat (first | (with_reducible first | exact HB.out | apply below_alloc | apply pw_below_drewN | apply below_drew1 | refine below_set ?_ GE101.out | refine below_set ?_ GE108.out | refine below_set ?_ GE109.out) | exact HB.out)) hb)
                    clear BK101
                    clear BK108
                    clear BK109
                    clear HB
                    have HO112 := n0_
                    have BK101 := n1_
                    have BK108 := n2_
                    have BK109 := n3_
                    have HB := n4_
                    clear n0_ n1_ n2_ n3_ n4_
                    clear hb ho33
                    obtain ⟨Ao34, co34, eo34⟩ := Kd.R_slice HO112.out
                    (first | subst eo34 | (injection eo34 with f1_ f2_ f3_; have f4_ := f1_.symm; have f5_ := f3_.symm; clear f1_ f2_ f3_; subst f4_; subst f5_))
                    refine hK.out _ _ ⟨(blk_cell BK108.out 0).trans rfl, (blk_cell BK108.out 1).trans rfl, (blk_cell BK108.out 2).trans rfl, (blk_cell BK108.out 3).trans rfl, (blk_cell BK108.out 4).trans rfl, (blk_cell BK108.out 5).trans rfl, (blk_cell BK109.out 0).trans rfl, (blk_cell BK109.out 1).trans rfl, (blk_cell BK109.out 2).trans rfl, (blk_cell BK109.out 3).trans rfl, (blk_cell BK109.out 4).trans rfl⟩ (fun hHeld => ?_)
                    clear hK K
                    refine norm_ (a' := ?_) ?_ ?_
                    rotate_left
                    · show Act.put _ (some 47) _ = _
                      simp only [Act.put, List.setIfInBounds_toArray, List.set_cons_zero, List.set_cons_succ, i64_w, i32_w]
                      rfl
                    refine one_ (i := 11) (N := some 48) #[true, true, true, true, true, true, true, true, true, true, true, true, true, true, false, false, true, true, false, false, false, false] rfl rfl (one_of HT_.out (by kernel_rfl)) (by decide) (fun K hK => ?_)
                    refine goes_ Tryd.func51 (by kernel_rfl) rfl #[.slice Ao34 y110.length co34] (by rfl) rfl rfl (by (try simp only [List.map_toArray, List.map_cons, List.map_nil]); first | done | rfl | (simp only [List.length_drop, List.length_take]; rfl)) ?_
                    with_reducible refine (edit_nums.calls k1 _ _ y110 t113 _ ?side1 ?side2 A17.out).mono ?_
                    (case side1 => repeat (first | exact (Kd.R_reads' HO112.out).2.2 | (with_reducible refine Kd.C_alloc ?_ _) | (with_reducible refine Kd.C_drewN ?_ _) | (with_reducible refine Kd.C_drew ?_)))
                    (case side2 => exact (Kd.R_reads' HO112.out).2.1)
                    rintro e w35 ⟨rfl, hb⟩
                    refine ⟨_, rfl, ?_⟩
                    have n0_ := Aside0.mk (Kd.R_below (by (with_reducible repeat (first | apply Kd.R_alloc | apply Kd.R_drewN | apply Kd.R_drew)); exact HO112.out) hb)
                    have n1_ := Aside0.mk (blk_below (g := gb101) (o := .cells #[.int .u64 a0_0, .int .u64 a0_1, .int .u64 a0_2, .slice (some ad107) l0_3.length c0_3, .slice A0_4 l0_4.length c0_4] 26 (0, 0)) (by (with_reducible repeat (first | refine blk_drewN ?_ _ | refine blk_drew ?_ | refine blk_alloc ?_ _)); exact BK101.out) hb)
                    have n2_ := Aside0.mk (blk_below (g := gb108) (o := .cells #[.int .i64 ((rd_T107 l0_3 x31_1).f0), .int .u64 ((rd_T107 l0_3 x31_1).f1.f0), .int .u64 ((rd_T107 l0_3 x31_1).f1.f1), .int .u64 ((rd_T107 l0_3 x31_1).f1.f2), .string ((rd_T107 l0_3 x31_1).f1.f3), .string ((rd_T107 l0_3 x31_1).f1.f4)] 107 (0, 0)) (by (with_reducible repeat (first | refine blk_drewN ?_ _ | refine blk_drew ?_ | refine blk_alloc ?_ _)); exact BK108.out) hb)
                    have n3_ := Aside0.mk (blk_below (g := gb109) (o := .cells #[.int .u64 ((rd_T107 l0_3 x31_1).f1.f0), .int .u64 ((rd_T107 l0_3 x31_1).f1.f1), .int .u64 ((rd_T107 l0_3 x31_1).f1.f2), .string ((rd_T107 l0_3 x31_1).f1.f3), .string ((rd_T107 l0_3 x31_1).f1.f4)] 97 (0, 0)) (by (with_reducible repeat (first | refine blk_drewN ?_ _ | refine blk_drew ?_ | refine blk_alloc ?_ _)); exact BK109.out) hb)
                    have n4_ := Aside0.mk (below_step (by repeat (first | (with_reducible first | exact HB.out | apply below_alloc | apply pw_below_drewN | apply below_drew1 | refine below_set ?_ GE101.out | refine below_set ?_ GE108.out | refine below_set ?_ GE109.out) | exact HB.out)) hb)
                    clear HO112
                    clear BK101
                    clear BK108
                    clear BK109
                    clear HB
                    have HO112 := n0_
                    have BK101 := n1_
                    have BK108 := n2_
                    have BK109 := n3_
                    have HB := n4_
                    clear n0_ n1_ n2_ n3_ n4_
                    (try clear hb)
                    (try clear hb2)
                    (try clear hk)
                    (try clear hi)
                    refine hK.out _ _ ⟨(blk_cell BK108.out 0).trans rfl, (blk_cell BK108.out 1).trans rfl, (blk_cell BK108.out 2).trans rfl, (blk_cell BK108.out 3).trans rfl, (blk_cell BK108.out 4).trans rfl, (blk_cell BK108.out 5).trans rfl, (blk_cell BK109.out 0).trans rfl, (blk_cell BK109.out 1).trans rfl, (blk_cell BK109.out 2).trans rfl, (blk_cell BK109.out 3).trans rfl, (blk_cell BK109.out 4).trans rfl⟩ (fun hHeld => ?_)
                    clear hK K
                    refine norm_ (a' := ?_) ?_ ?_
                    rotate_left
                    · show Act.put _ (some 48) _ = _
                      simp only [Act.put, List.setIfInBounds_toArray, List.set_cons_zero, List.set_cons_succ, i64_w, i32_w]
                      rfl
                    refine one_ (i := 14) (N := some 51) #[true, true, true, true, true, true, true, true, true, true, true, true, true, true, true, false, true, true, false, false, false, false] rfl rfl (one_of HT_.out (by kernel_rfl)) (by decide) (fun K hK => ?_)
                    refine goes_ Tryd.func52 (by kernel_rfl) rfl #[.string ((rd_T107 l0_3 x31_1).f1.f3)] (by rfl) rfl rfl (by (try simp only [List.map_toArray, List.map_cons, List.map_nil]); first | done | rfl | (simp only [List.length_drop, List.length_take]; rfl)) ?_
                    with_reducible refine (varint_Text.calls k1 ((rd_T107 l0_3 x31_1).f1.f3) t114 _ A18.out).mono ?_
                    rintro e w36 ⟨rfl, hb⟩
                    refine ⟨_, rfl, ?_⟩
                    have n0_ := Aside0.mk (Kd.R_below (by (with_reducible repeat (first | apply Kd.R_alloc | apply Kd.R_drewN | apply Kd.R_drew)); exact HO112.out) hb)
                    have n1_ := Aside0.mk (blk_below (g := gb101) (o := .cells #[.int .u64 a0_0, .int .u64 a0_1, .int .u64 a0_2, .slice (some ad107) l0_3.length c0_3, .slice A0_4 l0_4.length c0_4] 26 (0, 0)) (by (with_reducible repeat (first | refine blk_drewN ?_ _ | refine blk_drew ?_ | refine blk_alloc ?_ _)); exact BK101.out) hb)
                    have n2_ := Aside0.mk (blk_below (g := gb108) (o := .cells #[.int .i64 ((rd_T107 l0_3 x31_1).f0), .int .u64 ((rd_T107 l0_3 x31_1).f1.f0), .int .u64 ((rd_T107 l0_3 x31_1).f1.f1), .int .u64 ((rd_T107 l0_3 x31_1).f1.f2), .string ((rd_T107 l0_3 x31_1).f1.f3), .string ((rd_T107 l0_3 x31_1).f1.f4)] 107 (0, 0)) (by (with_reducible repeat (first | refine blk_drewN ?_ _ | refine blk_drew ?_ | refine blk_alloc ?_ _)); exact BK108.out) hb)
                    have n3_ := Aside0.mk (blk_below (g := gb109) (o := .cells #[.int .u64 ((rd_T107 l0_3 x31_1).f1.f0), .int .u64 ((rd_T107 l0_3 x31_1).f1.f1), .int .u64 ((rd_T107 l0_3 x31_1).f1.f2), .string ((rd_T107 l0_3 x31_1).f1.f3), .string ((rd_T107 l0_3 x31_1).f1.f4)] 97 (0, 0)) (by (with_reducible repeat (first | refine blk_drewN ?_ _ | refine blk_drew ?_ | refine blk_alloc ?_ _)); exact BK109.out) hb)
                    have n4_ := Aside0.mk (below_step (by repeat (first | (with_reducible first | exact HB.out | apply below_alloc | apply pw_below_drewN | apply below_drew1 | refine below_set ?_ GE101.out | refine below_set ?_ GE108.out | refine below_set ?_ GE109.out) | exact HB.out)) hb)
                    clear HO112
                    clear BK101
                    clear BK108
                    clear BK109
                    clear HB
                    have HO112 := n0_
                    have BK101 := n1_
                    have BK108 := n2_
                    have BK109 := n3_
                    have HB := n4_
                    clear n0_ n1_ n2_ n3_ n4_
                    (try clear hb)
                    (try clear hb2)
                    (try clear hk)
                    (try clear hi)
                    refine hK.out _ _ ⟨(blk_cell BK108.out 0).trans rfl, (blk_cell BK108.out 1).trans rfl, (blk_cell BK108.out 2).trans rfl, (blk_cell BK108.out 3).trans rfl, (blk_cell BK108.out 4).trans rfl, (blk_cell BK108.out 5).trans rfl, (blk_cell BK109.out 0).trans rfl, (blk_cell BK109.out 1).trans rfl, (blk_cell BK109.out 2).trans rfl, (blk_cell BK109.out 3).trans rfl, (blk_cell BK109.out 4).trans rfl⟩ (fun hHeld => ?_)
                    clear hK K
                    refine norm_ (a' := ?_) ?_ ?_
                    rotate_left
                    · show Act.put _ (some 51) _ = _
                      simp only [Act.put, List.setIfInBounds_toArray, List.set_cons_zero, List.set_cons_succ, i64_w, i32_w]
                      rfl
                    refine pure_ (i := 15) (N := some 52) (v := ?_) (a' := ?_) #[true, true, true, true, true, true, true, true, true, true, true, true, true, true, true, true, true, true, false, false, false, false] rfl rfl (any_of HT_.out (by kernel_rfl)) (fun _ _ _ h => h) (Or.inl ⟨by rfl, ?_⟩) ?_ ?_
                    rotate_left
                    · intro w'
                      go_simp
                      with_reducible rfl
                    rotate_left
                    · simp only [Act.put, List.setIfInBounds_toArray, List.set_cons_zero, List.set_cons_succ, i64_w, i32_w]
                      rfl
                    refine one_ (i := 18) (N := some 55) #[true, true, true, true, true, true, true, true, true, true, true, true, true, true, true, true, true, true, true, false, false, false] rfl rfl (one_of HT_.out (by kernel_rfl)) (by decide) (fun K hK => ?_)
                    refine goes_ Tryd.func52 (by kernel_rfl) rfl #[.string ((rd_T107 l0_3 x31_1).f1.f4)] (by rfl) rfl rfl (by (try simp only [List.map_toArray, List.map_cons, List.map_nil]); first | done | rfl | (simp only [List.length_drop, List.length_take]; rfl)) ?_
                    with_reducible refine (varint_Text.calls k1 ((rd_T107 l0_3 x31_1).f1.f4) t115 _ A20.out).mono ?_
                    rintro e w37 ⟨rfl, hb⟩
                    refine ⟨_, rfl, ?_⟩
                    have n0_ := Aside0.mk (Kd.R_below (by (with_reducible repeat (first | apply Kd.R_alloc | apply Kd.R_drewN | apply Kd.R_drew)); exact HO112.out) hb)
                    have n1_ := Aside0.mk (blk_below (g := gb101) (o := .cells #[.int .u64 a0_0, .int .u64 a0_1, .int .u64 a0_2, .slice (some ad107) l0_3.length c0_3, .slice A0_4 l0_4.length c0_4] 26 (0, 0)) (by (with_reducible repeat (first | refine blk_drewN ?_ _ | refine blk_drew ?_ | refine blk_alloc ?_ _)); exact BK101.out) hb)
                    have n2_ := Aside0.mk (blk_below (g := gb108) (o := .cells #[.int .i64 ((rd_T107 l0_3 x31_1).f0), .int .u64 ((rd_T107 l0_3 x31_1).f1.f0), .int .u64 ((rd_T107 l0_3 x31_1).f1.f1), .int .u64 ((rd_T107 l0_3 x31_1).f1.f2), .string ((rd_T107 l0_3 x31_1).f1.f3), .string ((rd_T107 l0_3 x31_1).f1.f4)] 107 (0, 0)) (by (with_reducible repeat (first | refine blk_drewN ?_ _ | refine blk_drew ?_ | refine blk_alloc ?_ _)); exact BK108.out) hb)
                    have n3_ := Aside0.mk (blk_below (g := gb109) (o := .cells #[.int .u64 ((rd_T107 l0_3 x31_1).f1.f0), .int .u64 ((rd_T107 l0_3 x31_1).f1.f1), .int .u64 ((rd_T107 l0_3 x31_1).f1.f2), .string ((rd_T107 l0_3 x31_1).f1.f3), .string ((rd_T107 l0_3 x31_1).f1.f4)] 97 (0, 0)) (by (with_reducible repeat (first | refine blk_drewN ?_ _ | refine blk_drew ?_ | refine blk_alloc ?_ _)); exact BK109.out) hb)
                    have n4_ := Aside0.mk (below_step (by repeat (first | (with_reducible first | exact HB.out | apply below_alloc | apply pw_below_drewN | apply below_drew1 | refine below_set ?_ GE101.out | refine below_set ?_ GE108.out | refine below_set ?_ GE109.out) | exact HB.out)) hb)
                    clear HO112
                    clear BK101
                    clear BK108
                    clear BK109
                    clear HB
                    have HO112 := n0_
                    have BK101 := n1_
                    have BK108 := n2_
                    have BK109 := n3_
                    have HB := n4_
                    clear n0_ n1_ n2_ n3_ n4_
                    (try clear hb)
                    (try clear hb2)
                    (try clear hk)
                    (try clear hi)
                    refine hK.out _ _ ⟨(blk_cell BK108.out 0).trans rfl, (blk_cell BK108.out 1).trans rfl, (blk_cell BK108.out 2).trans rfl, (blk_cell BK108.out 3).trans rfl, (blk_cell BK108.out 4).trans rfl, (blk_cell BK108.out 5).trans rfl, (blk_cell BK109.out 0).trans rfl, (blk_cell BK109.out 1).trans rfl, (blk_cell BK109.out 2).trans rfl, (blk_cell BK109.out 3).trans rfl, (blk_cell BK109.out 4).trans rfl⟩ (fun hHeld => ?_)
                    clear hK K
                    refine norm_ (a' := ?_) ?_ ?_
                    rotate_left
                    · show Act.put _ (some 55) _ = _
                      simp only [Act.put, List.setIfInBounds_toArray, List.set_cons_zero, List.set_cons_succ, i64_w, i32_w]
                      rfl
                    refine pure_ (i := 19) (N := some 56) (v := ?_) (a' := ?_) #[true, true, true, true, true, true, true, true, true, true, true, true, true, true, true, true, true, true, true, true, false, false] rfl rfl (any_of HT_.out (by kernel_rfl)) (fun _ _ _ h => h) (Or.inl ⟨by rfl, ?_⟩) ?_ ?_
                    rotate_left
                    · intro w'
                      go_simp
                      with_reducible rfl
                    rotate_left
                    · simp only [Act.put, List.setIfInBounds_toArray, List.set_cons_zero, List.set_cons_succ, i64_w, i32_w]
                      rfl
                    refine pure_ (i := 20) (N := some 57) (v := ?_) (a' := ?_) #[true, true, true, true, true, true, true, true, true, true, true, true, true, true, true, true, true, true, true, true, true, false] rfl rfl (any_of HT_.out (by kernel_rfl)) (fun _ _ _ h => h) (Or.inl ⟨by rfl, ?_⟩) ?_ ?_
                    rotate_left
                    · intro w'
                      go_simp
                      with_reducible rfl
                    rotate_left
                    · simp only [Act.put, List.setIfInBounds_toArray, List.set_cons_zero, List.set_cons_succ, i64_w, i32_w]
                      rfl
                    refine pure_ (i := 21) (N := some 5) (v := ?_) (a' := ?_) #[true, true, true, true, true, true, true, true, true, true, true, true, true, true, true, true, true, true, true, true, true, true] rfl rfl (any_of HT_.out (by kernel_rfl)) (fun _ _ _ h => h) (Or.inl ⟨by rfl, ?_⟩) ?_ ?_
                    rotate_left
                    · intro w'
                      go_simp
                      with_reducible rfl
                    rotate_left
                    · simp only [Act.put, List.setIfInBounds_toArray, List.set_cons_zero, List.set_cons_succ, i64_w, i32_w]
                      rfl
                    refine done_ (done_of HT_.out (by kernel_rfl)) ?_
                    try go_wp2
                    go_roundg k1
                    case measure => have := HK1.out; omega
                    case rel => exact ⟨(x5_1 ++ ((t113 ++ t114) ++ t115)), (wrap64 (x31_1 + 1)), (by first | rfl | (simp; done) | (simp [*]; done)), (by first | rfl | (simp; done) | (simp [*]; done)), H', ⟨by have := HK1.out; omega⟩, ⟨by (with_reducible repeat (first | refine blk_drewN ?_ _ | refine blk_drew ?_ | refine blk_alloc ?_ _)); exact BK101.out⟩, ⟨by repeat (first | (with_reducible first | exact HB.out | apply below_alloc | apply pw_below_drewN | apply below_drew1 | refine below_set ?_ GE101.out | refine below_set ?_ GE108.out | refine below_set ?_ GE109.out) | exact HB.out)⟩⟩
                  · rw [if_neg c22] at H
                    exact absurd H (by simp)
                · rw [if_neg c21] at H
                  exact absurd H (by simp)
              · rw [if_neg c19] at H
                exact absurd H (by simp)
            · rw [if_neg c16] at H
              exact absurd H (by simp)
          · rw [if_neg c15] at H
            exact absurd H (by simp)
        · rw [if_neg c14] at H
          have c14b0 : decide (x31_1 < (l0_3.length : Int)) = false := decide_eq_false c14
          clear c14
          obtain ⟨y116, hy116⟩ : ∃ y_ : List Int, y_ = (([IntKind.u64.wrap ((l0_4.length : Int))] : List Int)) := ⟨_, rfl⟩
          replace H : ((edit_nums.f k1 y116).bind fun t119 => (if x5_1.size + t119.size ≤ 9223372036854775807 then (edit_Edit_Bytes.l1 k1 (x5_1 ++ t119) l0_4 (l0_4.length : Int) 0) else (none))) = some (r1, r2) := by first | (rw [hy116]; with_reducible exact H) | (have H2_ := (Option.bind_some _ _).symm.trans H; rw [hy116]; with_reducible exact H2_) | (have H2_ := (Option.bind_some _ _).symm.trans H; with_reducible exact H2_) | with_reducible exact H | (rw [hy116]; exact H) | exact H
          have Ny116 := Aside0.mk hy116
          clear hy116
          replace H := Option.bind_eq_some_iff.mp H
          obtain ⟨t119, A380, H⟩ := H
          replace H : (if x5_1.size + t119.size ≤ 9223372036854775807 then (edit_Edit_Bytes.l1 k1 (x5_1 ++ t119) l0_4 (l0_4.length : Int) 0) else (none)) = some (r1, r2) := H
          have A38 := Aside0.mk A380
          clear A380
          by_cases c39 : x5_1.size + t119.size ≤ 9223372036854775807
          · rw [if_pos c39] at H
            have c39b0 := eq_true c39
            have c39b1 : decide (x5_1.size + t119.size ≤ 9223372036854775807) = true := decide_eq_true c39
            try have c39b2 : (9223372036854775807 < x5_1.size + t119.size) = False := eq_false (Nat.not_lt.2 c39)
            have H' := Aside0.mk H
            clear H
            have hcz40_0 : wr.cell? ⟨gb101, 0, none⟩ = some (.int .u64 a0_0) := (blk_cell BK101.out 0).trans rfl
            have hcz40_1 : wr.cell? ⟨gb101, 1, none⟩ = some (.int .u64 a0_1) := (blk_cell BK101.out 1).trans rfl
            have hcz40_2 : wr.cell? ⟨gb101, 2, none⟩ = some (.int .u64 a0_2) := (blk_cell BK101.out 2).trans rfl
            have hcz40_3 : wr.cell? ⟨gb101, 3, none⟩ = some (.slice A0_3 l0_3.length c0_3) := (blk_cell BK101.out 3).trans rfl
            have hcz40_4 : wr.cell? ⟨gb101, 4, none⟩ = some (.slice A0_4 l0_4.length c0_4) := (blk_cell BK101.out 4).trans rfl
            have hfz40_0 := blk_frozen BK101.out 0
            have hfz40_1 := blk_frozen BK101.out 1
            have hfz40_2 := blk_frozen BK101.out 2
            have hfz40_3 := blk_frozen BK101.out 3
            have hfz40_4 := blk_frozen BK101.out 4
            go_wp2_with (first | ((with_reducible refine gate_dst (N := 64) rfl ?_); refine Kd.R_lit (Kd.int .u64) _ 22 ?hg (N := 64) ?hd (xs := ([IntKind.u64.wrap ((l0_4.length : Int))] : List Int)) (inner := [.int .u64 (IntKind.u64.wrap ((l0_4.length : Int)))]) (ok := fun _ => True) (okp := fun _ => True) ?hr ?hp (fun _ hk => hk) trivial (Below.refl _ _) (Nat.le_refl _) (by simp) ?_; (case hd => rfl); (case hg => rfl); (case hr => first | (go_simp; done) | (go_simp; rfl)); (case hp => exact (Reps.one (show Kd.M (Kd.int .u64) _ _ _ (IntKind.u64.wrap ((l0_4.length : Int))) [.int .u64 (IntKind.u64.wrap ((l0_4.length : Int)))] from rfl) (Reps.none _ _))); intro v117 w41 ho42 hb hg_ hnew_; clear hg_ hnew_; (first | rw [← Ny116.out] at ho42 | (simp only [Int.reduceToNat] at ho42; rw [← Ny116.out] at ho42)); have n0_ := Aside0.mk (Kd.R_lower ho42 (below_size (by repeat (first | (with_reducible first | exact HB.out | apply below_alloc | apply pw_below_drewN | apply below_drew1 | refine below_set ?_ GE101.out) | exact HB.out)))); have n1_ := Aside0.mk (blk_below (g := gb101) (o := .cells #[.int .u64 a0_0, .int .u64 a0_1, .int .u64 a0_2, .slice A0_3 l0_3.length c0_3, .slice A0_4 l0_4.length c0_4] 26 (0, 0)) (by (with_reducible repeat (first | refine blk_drewN ?_ _ | refine blk_drew ?_ | refine blk_alloc ?_ _)); exact BK101.out) hb); have n2_ := Aside0.mk (below_step (by repeat (first | (with_reducible first | exact HB.out | apply below_alloc | apply pw_below_drewN | apply below_drew1 | refine below_set ?_ GE101.out) | exact HB.out)) hb); clear BK101; clear HB; have HO118 := n0_; have BK101 := n1_; have HB := n2_; clear n0_ n1_ n2_; clear hb ho42; obtain ⟨Ao43, co43, eo43⟩ := Kd.R_slice HO118.out; subst eo43) | ((with_reducible refine gate_callee (f := 51) rfl ?_); refine goesL_ (some 65) rfl rfl Tryd.func51 (by kernel_rfl) rfl #[.slice Ao43 y116.length co43] rfl (by (try simp only [List.map_toArray, List.map_cons, List.map_nil]); first | done | rfl | (simp only [List.length_drop, List.length_take]; rfl)) ?_; (with_reducible refine (edit_nums.calls k1 _ _ y116 t119 _ ?side1 ?side2 A38.out).mono ?_); (case side1 => repeat (first | exact (Kd.R_reads' HO118.out).2.2 | (with_reducible refine Kd.C_alloc ?_ _) | (with_reducible refine Kd.C_drewN ?_ _) | (with_reducible refine Kd.C_drew ?_))); (case side2 => exact (Kd.R_reads' HO118.out).2.1); rintro e w44 ⟨rfl, hb⟩; refine ⟨_, rfl, ?_⟩; have n0_ := Aside0.mk (Kd.R_below (by (with_reducible repeat (first | apply Kd.R_alloc | apply Kd.R_drewN | apply Kd.R_drew)); exact HO118.out) hb); have n1_ := Aside0.mk (blk_below (g := gb101) (o := .cells #[.int .u64 a0_0, .int .u64 a0_1, .int .u64 a0_2, .slice A0_3 l0_3.length c0_3, .slice A0_4 l0_4.length c0_4] 26 (0, 0)) (by (with_reducible repeat (first | refine blk_drewN ?_ _ | refine blk_drew ?_ | refine blk_alloc ?_ _)); exact BK101.out) hb); have n2_ := Aside0.mk (below_step (by repeat (first | (with_reducible first | exact HB.out | apply below_alloc | apply pw_below_drewN | apply below_drew1 | refine below_set ?_ GE101.out) | exact HB.out)) hb); clear HO118; clear BK101; clear HB; have HO118 := n0_; have BK101 := n1_; have HB := n2_; clear n0_ n1_ n2_; (try clear hb); (try clear hb2); (try clear hk); (try clear hi); have hcz45_0 : w44.cell? ⟨gb101, 0, none⟩ = some (.int .u64 a0_0) := (blk_cell BK101.out 0).trans rfl; have hcz45_1 : w44.cell? ⟨gb101, 1, none⟩ = some (.int .u64 a0_1) := (blk_cell BK101.out 1).trans rfl; have hcz45_2 : w44.cell? ⟨gb101, 2, none⟩ = some (.int .u64 a0_2) := (blk_cell BK101.out 2).trans rfl; have hcz45_3 : w44.cell? ⟨gb101, 3, none⟩ = some (.slice A0_3 l0_3.length c0_3) := (blk_cell BK101.out 3).trans rfl; have hcz45_4 : w44.cell? ⟨gb101, 4, none⟩ = some (.slice A0_4 l0_4.length c0_4) := (blk_cell BK101.out 4).trans rfl; have hfz45_0 := blk_frozen BK101.out 0; have hfz45_1 := blk_frozen BK101.out 1; have hfz45_2 := blk_frozen BK101.out 2; have hfz45_3 := blk_frozen BK101.out 3; have hfz45_4 := blk_frozen BK101.out 4))
            go_loopg [5, 70] k1 (fun kq v5 v70 w' => ∃ (x5_2 : ByteArray) (x70_2 : Int), v5 = .string x5_2 ∧ v70 = .int .i64 x70_2 ∧ Aside0 (edit_Edit_Bytes.l1 kq x5_2 l0_4 (l0_4.length : Int) x70_2 = some (r1, r2)) ∧ Aside0 (kq ≤ k1) ∧ Aside0 (w'.heap[gb101]? = some (.cells #[.int .u64 a0_0, .int .u64 a0_1, .int .u64 a0_2, (.slice A0_3 l0_3.length c0_3), (.slice A0_4 l0_4.length c0_4)] 26 (0, 0))) ∧ Aside0 (Below w.heap.size w w'))
            case atStart => exact ⟨(x5_1 ++ t119), (0), (by first | rfl | (simp; done) | (simp [*]; done)), (by first | rfl | (simp; done) | (simp [*]; done)), H', ⟨Nat.le_refl _⟩, ⟨by (with_reducible repeat (first | refine blk_drewN ?_ _ | refine blk_drew ?_ | refine blk_alloc ?_ _)); exact BK101.out⟩, ⟨by repeat (first | (with_reducible first | exact HB.out | apply below_alloc | apply pw_below_drewN | apply below_drew1 | refine below_set ?_ GE101.out) | exact HB.out)⟩⟩
            case round =>
              clear H'
              try clear c1
              try clear p1
              try clear q1
              try clear hx1
              try clear c2
              try clear p2
              try clear c3
              try clear c3b0
              try clear c3b1
              try clear c5
              try clear p6
              try clear p10
              try clear q10
              try clear hx10
              try clear c14
              try clear c14b0
              try clear c15
              try clear c15b0
              try clear c16
              try clear c16b0
              try clear c19
              try clear c19b0
              try clear c19b1
              try clear c19b2
              try clear c20
              try clear c21
              try clear c21b0
              try clear c21b1
              try clear c21b2
              try clear c22
              try clear c22b0
              try clear c22b1
              try clear c22b2
              try clear c24
              try clear c27
              try clear c28
              try clear c39
              try clear c39b0
              try clear c39b1
              try clear c39b2
              try clear hcz13_0
              try clear hcz13_1
              try clear hcz13_2
              try clear hcz13_3
              try clear hcz13_4
              try clear hcz25_0
              try clear hcz25_1
              try clear hcz25_2
              try clear hcz25_3
              try clear hcz25_4
              try clear hcz25_5
              try clear hcz29_0
              try clear hcz29_1
              try clear hcz29_2
              try clear hcz29_3
              try clear hcz29_4
              try clear hcz40_0
              try clear hcz40_1
              try clear hcz40_2
              try clear hcz40_3
              try clear hcz40_4
              try clear hcz45_0
              try clear hcz45_1
              try clear hcz45_2
              try clear hcz45_3
              try clear hcz45_4
              try clear hcz6_0
              try clear hcz6_1
              try clear hcz6_2
              try clear hcz6_3
              try clear hcz6_4
              try clear hcz8_0
              try clear hcz8_1
              try clear hcz8_2
              try clear hcz8_3
              try clear hcz8_4
              try clear hfz13_0
              try clear hfz13_1
              try clear hfz13_2
              try clear hfz13_3
              try clear hfz13_4
              try clear hfz25_0
              try clear hfz25_1
              try clear hfz25_2
              try clear hfz25_3
              try clear hfz25_4
              try clear hfz25_5
              try clear hfz29_0
              try clear hfz29_1
              try clear hfz29_2
              try clear hfz29_3
              try clear hfz29_4
              try clear hfz40_0
              try clear hfz40_1
              try clear hfz40_2
              try clear hfz40_3
              try clear hfz40_4
              try clear hfz45_0
              try clear hfz45_1
              try clear hfz45_2
              try clear hfz45_3
              try clear hfz45_4
              try clear hfz6_0
              try clear hfz6_1
              try clear hfz6_2
              try clear hfz6_3
              try clear hfz6_4
              try clear hfz8_0
              try clear hfz8_1
              try clear hfz8_2
              try clear hfz8_3
              try clear hfz8_4
              try clear hx107_0
              try clear hx107_1
              try clear hx107_2
              try clear hx107_3
              try clear hx107_4
              try clear hx107_5
              try clear p107
              try clear p2
              try clear q107
              obtain ⟨x5_2, x70_2, rfl, rfl, HA, HK2, BK101, HB⟩ := hrel
              cases gk with
              | zero => exact absurd HA.out (by simp [edit_Edit_Bytes.l1])
              | succ k2 =>
                have H := HA.out
                clear HA
                simp only [edit_Edit_Bytes.l1] at H
                by_cases c46 : x70_2 < (l0_4.length : Int)
                · rw [if_pos c46] at H
                  have c46b0 : decide (x70_2 < (l0_4.length : Int)) = true := decide_eq_true c46
                  clear c46
                  by_cases c47 : 0 ≤ x70_2
                  · rw [if_pos c47] at H
                    have c47b0 : decide (0 ≤ x70_2) = true := decide_eq_true c47
                    clear c47
                    by_cases c48 : x70_2 < (l0_4.length : Int)
                    · rw [if_pos c48] at H
                      have c48b0 : decide (x70_2 < (l0_4.length : Int)) = true := decide_eq_true c48
                      clear c48
                      obtain ⟨y122, hy122⟩ : ∃ y_ : List Int, y_ = (([IntKind.u64.wrap ((rd_T111 l0_4 x70_2).f0), (rd_T111 l0_4 x70_2).f1] : List Int)) := ⟨_, rfl⟩
                      replace H : ((edit_nums.f k2 y122).bind fun t125 => (if x5_2.size + t125.size ≤ 9223372036854775807 then (edit_Edit_Bytes.l1 k2 (x5_2 ++ t125) l0_4 (l0_4.length : Int) (wrap64 (x70_2 + 1))) else (none))) = some (r1, r2) := by first | (rw [hy122]; with_reducible exact H) | (have H2_ := (Option.bind_some _ _).symm.trans H; rw [hy122]; with_reducible exact H2_) | (have H2_ := (Option.bind_some _ _).symm.trans H; with_reducible exact H2_) | with_reducible exact H | (rw [hy122]; exact H) | exact H
                      have Ny122 := Aside0.mk hy122
                      clear hy122
                      replace H := Option.bind_eq_some_iff.mp H
                      obtain ⟨t125, A490, H⟩ := H
                      replace H : (if x5_2.size + t125.size ≤ 9223372036854775807 then (edit_Edit_Bytes.l1 k2 (x5_2 ++ t125) l0_4 (l0_4.length : Int) (wrap64 (x70_2 + 1))) else (none)) = some (r1, r2) := H
                      have A49 := Aside0.mk A490
                      clear A490
                      by_cases c50 : x5_2.size + t125.size ≤ 9223372036854775807
                      · rw [if_pos c50] at H
                        have c50b0 := eq_true c50
                        have c50b1 : decide (x5_2.size + t125.size ≤ 9223372036854775807) = true := decide_eq_true c50
                        try have c50b2 : (9223372036854775807 < x5_2.size + t125.size) = False := eq_false (Nat.not_lt.2 c50)
                        have H' := Aside0.mk H
                        clear H
                        have p120 : 0 ≤ (x70_2 : Int) := of_decide_eq_true (by first | (with_reducible assumption) | assumption)
                        have q120 : x70_2 < (l0_4.length : Int) := of_decide_eq_true (by first | (with_reducible assumption) | assumption)
                        obtain ⟨ad120, e120, hx120_0, hx120_1⟩ := at_T111 HR0_4.out x70_2 p120 q120
                        cases e120
                        replace hx120_0 := (HB.out.cell (World.block_lt_of_cell? w _ hx120_0)).trans hx120_0
                        replace hx120_1 := (HB.out.cell (World.block_lt_of_cell? w _ hx120_1)).trans hx120_1
                        replace p120 := eq_true p120
                        replace q120 := eq_true q120
                        go_wp2_with (first | ((with_reducible refine gate_dst (N := 10) rfl ?_); refine box_event ?hg (N := 10) ?hd (cs := #[.int .i64 0, .int .u64 0]) (t := 111) ?hr ?_; (case hd => rfl); (case hg => rfl); (case hr => first | (go_simp; done) | (go_simp; rfl)); intro gb121 hg w51 hbox hb; have n0_ := Aside0.mk (blk_below (g := gb101) (o := .cells #[.int .u64 a0_0, .int .u64 a0_1, .int .u64 a0_2, .slice A0_3 l0_3.length c0_3, .slice (some ad120) l0_4.length c0_4] 26 (0, 0)) (by (with_reducible repeat (first | refine blk_drewN ?_ _ | refine blk_drew ?_ | refine blk_alloc ?_ _)); exact BK101.out) hb); have n1_ := Aside0.mk (below_step (by repeat (first | (with_reducible first | exact HB.out | apply below_alloc | apply pw_below_drewN | apply below_drew1 | refine below_set ?_ GE101.out) | exact HB.out)) hb); have n2_ := Aside0.mk (hbox); have n3_ := Aside0.mk ((by rw [hg]; exact (below_size (by repeat (first | (with_reducible first | exact HB.out | apply below_alloc | apply pw_below_drewN | apply below_drew1 | refine below_set ?_ GE101.out) | exact HB.out))) : w.heap.size ≤ gb121)); have n4_ := Aside0.mk ((by rw [hg]; exact (below_size (by repeat (first | (with_reducible first | exact HB.out | apply below_alloc | apply pw_below_drewN | apply below_drew1 | refine below_set ?_ GE101.out) | exact HB.out))) : w.heap.size ≤ gb121)); have n5_ := Aside0.mk ((by rw [hg]; exact Nat.ne_of_lt (blk_lt (g := gb101) (o := .cells #[.int .u64 a0_0, .int .u64 a0_1, .int .u64 a0_2, .slice A0_3 l0_3.length c0_3, .slice (some ad120) l0_4.length c0_4] 26 (0, 0)) (by (with_reducible repeat (first | refine blk_drewN ?_ _ | refine blk_drew ?_ | refine blk_alloc ?_ _)); exact BK101.out)) : gb101 ≠ gb121)); have n6_ := Aside0.mk ((by rw [hg]; exact Nat.ne_of_gt (blk_lt (g := gb101) (o := .cells #[.int .u64 a0_0, .int .u64 a0_1, .int .u64 a0_2, .slice A0_3 l0_3.length c0_3, .slice (some ad120) l0_4.length c0_4] 26 (0, 0)) (by (with_reducible repeat (first | refine blk_drewN ?_ _ | refine blk_drew ?_ | refine blk_alloc ?_ _)); exact BK101.out)) : gb121 ≠ gb101)); clear BK101; clear HB; have BK101 := n0_; have HB := n1_; have BK121 := n2_; have GW121 := n3_; have GE121 := n4_; have NB101_121 := n5_; have NB121_101 := n6_; clear n0_ n1_ n2_ n3_ n4_ n5_ n6_; clear hb hbox hg; have hnb52 := NB121_101.out; have hnc52 := NB101_121.out; have hcz53_0 : w51.cell? ⟨gb121, 0, none⟩ = some (.int .i64 0) := (blk_cell BK121.out 0).trans rfl; have hcz53_1 : w51.cell? ⟨gb121, 1, none⟩ = some (.int .u64 0) := (blk_cell BK121.out 1).trans rfl; have hfz53_0 := blk_frozen BK121.out 0; have hfz53_1 := blk_frozen BK121.out 1) | ((with_reducible refine gate_dst (N := 80) rfl ?_); refine Kd.R_lit (Kd.int .u64) _ 22 ?hg (N := 80) ?hd (xs := ([IntKind.u64.wrap ((rd_T111 l0_4 x70_2).f0), (rd_T111 l0_4 x70_2).f1] : List Int)) (inner := [.int .u64 (IntKind.u64.wrap ((rd_T111 l0_4 x70_2).f0)), .int .u64 ((rd_T111 l0_4 x70_2).f1)]) (ok := fun _ => True) (okp := fun _ => True) ?hr ?hp (fun _ hk => hk) trivial (Below.refl _ _) (Nat.le_refl _) (by simp) ?_; (case hd => rfl); (case hg => rfl); (case hr => first | (go_simp; done) | (go_simp; rfl)); (case hp => exact (Reps.one (show Kd.M (Kd.int .u64) _ _ _ (IntKind.u64.wrap ((rd_T111 l0_4 x70_2).f0)) [.int .u64 (IntKind.u64.wrap ((rd_T111 l0_4 x70_2).f0))] from rfl) (Reps.one (show Kd.M (Kd.int .u64) _ _ _ ((rd_T111 l0_4 x70_2).f1) [.int .u64 ((rd_T111 l0_4 x70_2).f1)] from rfl) (Reps.none _ _)))); intro v123 w54 ho55 hb hg_ hnew_; clear hg_ hnew_; (first | rw [← Ny122.out] at ho55 | (simp only [Int.reduceToNat] at ho55; rw [← Ny122.out] at ho55)); have n0_ := Aside0.mk (Kd.R_lower ho55 (below_size (by repeat (first | (with_reducible first | exact HB.out | apply below_alloc | apply pw_below_drewN | apply below_drew1 | refine below_set ?_ GE101.out | refine below_set ?_ GE121.out) | exact HB.out)))); have n1_ := Aside0.mk (blk_below (g := gb101) (o := .cells #[.int .u64 a0_0, .int .u64 a0_1, .int .u64 a0_2, .slice A0_3 l0_3.length c0_3, .slice (some ad120) l0_4.length c0_4] 26 (0, 0)) (by (with_reducible repeat (first | refine blk_drewN ?_ _ | refine blk_drew ?_ | refine blk_alloc ?_ _)); refine blk_far ?_ NB101_121.out _; (with_reducible repeat (first | refine blk_drewN ?_ _ | refine blk_drew ?_ | refine blk_alloc ?_ _)); refine blk_far ?_ NB101_121.out _; (with_reducible repeat (first | refine blk_drewN ?_ _ | refine blk_drew ?_ | refine blk_alloc ?_ _)); exact BK101.out) hb); have n2_ := Aside0.mk (blk_below (g := gb121) (o := .cells #[.int .i64 ((rd_T111 l0_4 x70_2).f0), .int .u64 ((rd_T111 l0_4 x70_2).f1)] 111 (0, 0)) (by (with_reducible repeat (first | refine blk_drewN ?_ _ | refine blk_drew ?_ | refine blk_alloc ?_ _)); refine blk_put (cs := #[.int .i64 ((rd_T111 l0_4 x70_2).f0), .int .u64 0]) ?_ 1 _ rfl; (with_reducible repeat (first | refine blk_drewN ?_ _ | refine blk_drew ?_ | refine blk_alloc ?_ _)); refine blk_put (cs := #[.int .i64 0, .int .u64 0]) ?_ 0 _ rfl; (with_reducible repeat (first | refine blk_drewN ?_ _ | refine blk_drew ?_ | refine blk_alloc ?_ _)); exact BK121.out) hb); have n3_ := Aside0.mk (below_step (by repeat (first | (with_reducible first | exact HB.out | apply below_alloc | apply pw_below_drewN | apply below_drew1 | refine below_set ?_ GE101.out | refine below_set ?_ GE121.out) | exact HB.out)) hb); clear BK101; clear BK121; clear HB; have HO124 := n0_; have BK101 := n1_; have BK121 := n2_; have HB := n3_; clear n0_ n1_ n2_ n3_; clear hb ho55; obtain ⟨Ao56, co56, eo56⟩ := Kd.R_slice HO124.out; subst eo56) | ((with_reducible refine gate_callee (f := 51) rfl ?_); refine goesL_ (some 81) rfl rfl Tryd.func51 (by kernel_rfl) rfl #[.slice Ao56 y122.length co56] rfl (by (try simp only [List.map_toArray, List.map_cons, List.map_nil]); first | done | rfl | (simp only [List.length_drop, List.length_take]; rfl)) ?_; (with_reducible refine (edit_nums.calls k2 _ _ y122 t125 _ ?side1 ?side2 A49.out).mono ?_); (case side1 => repeat (first | exact (Kd.R_reads' HO124.out).2.2 | (with_reducible refine Kd.C_alloc ?_ _) | (with_reducible refine Kd.C_drewN ?_ _) | (with_reducible refine Kd.C_drew ?_))); (case side2 => exact (Kd.R_reads' HO124.out).2.1); rintro e w57 ⟨rfl, hb⟩; refine ⟨_, rfl, ?_⟩; have n0_ := Aside0.mk (Kd.R_below (by (with_reducible repeat (first | apply Kd.R_alloc | apply Kd.R_drewN | apply Kd.R_drew)); exact HO124.out) hb); have n1_ := Aside0.mk (blk_below (g := gb101) (o := .cells #[.int .u64 a0_0, .int .u64 a0_1, .int .u64 a0_2, .slice A0_3 l0_3.length c0_3, .slice (some ad120) l0_4.length c0_4] 26 (0, 0)) (by (with_reducible repeat (first | refine blk_drewN ?_ _ | refine blk_drew ?_ | refine blk_alloc ?_ _)); exact BK101.out) hb); have n2_ := Aside0.mk (blk_below (g := gb121) (o := .cells #[.int .i64 ((rd_T111 l0_4 x70_2).f0), .int .u64 ((rd_T111 l0_4 x70_2).f1)] 111 (0, 0)) (by (with_reducible repeat (first | refine blk_drewN ?_ _ | refine blk_drew ?_ | refine blk_alloc ?_ _)); exact BK121.out) hb); have n3_ := Aside0.mk (below_step (by repeat (first | (with_reducible first | exact HB.out | apply below_alloc | apply pw_below_drewN | apply below_drew1 | refine below_set ?_ GE101.out | refine below_set ?_ GE121.out) | exact HB.out)) hb); clear HO124; clear BK101; clear BK121; clear HB; have HO124 := n0_; have BK101 := n1_; have BK121 := n2_; have HB := n3_; clear n0_ n1_ n2_ n3_; (try clear hb); (try clear hb2); (try clear hk); (try clear hi)))
                        go_roundg k2
                        case measure => have := HK1.out; have := HK2.out; omega
                        case rel => exact ⟨(x5_2 ++ t125), (wrap64 (x70_2 + 1)), (by first | rfl | (simp; done) | (simp [*]; done)), (by first | rfl | (simp; done) | (simp [*]; done)), H', ⟨by have := HK1.out; have := HK2.out; omega⟩, ⟨by (with_reducible repeat (first | refine blk_drewN ?_ _ | refine blk_drew ?_ | refine blk_alloc ?_ _)); exact BK101.out⟩, ⟨by repeat (first | (with_reducible first | exact HB.out | apply below_alloc | apply pw_below_drewN | apply below_drew1 | refine below_set ?_ GE101.out | refine below_set ?_ GE121.out) | exact HB.out)⟩⟩
                      · rw [if_neg c50] at H
                        exact absurd H (by simp)
                    · rw [if_neg c48] at H
                      exact absurd H (by simp)
                  · rw [if_neg c47] at H
                    exact absurd H (by simp)
                · rw [if_neg c46] at H
                  have c46b0 : decide (x70_2 < (l0_4.length : Int)) = false := decide_eq_false c46
                  clear c46
                  simp only [Option.some.injEq, Prod.mk.injEq] at H
                  obtain ⟨rfl, rfl⟩ := H
                  go_wp2
                  go_ret2
                  exact ⟨by first | rfl | (simp [errW_none, errW_some] <;> rfl) | (simp [*, errW_none, errW_some] <;> rfl), by repeat (first | (with_reducible first | exact HB.out | apply below_alloc | apply pw_below_drewN | apply below_drew1 | refine below_set ?_ GE101.out) | exact HB.out)⟩
          · rw [if_neg c39] at H
            exact absurd H (by simp)
  · rw [if_neg c3] at H
    have c3b0 : (t102 == 0) = false := beq_eq_false_iff_ne.mpr c3
    have c3b1 : (t102 != 0) = true := bne_iff_ne.mpr c3
    simp only [Option.some.injEq, Prod.mk.injEq] at H
    obtain ⟨rfl, rfl⟩ := H
    go_enter Tryd.func15, Tryd.ntmps15
    go_wp2_with (first | ((with_reducible refine gate_dst (N := 1) rfl ?_); refine box_event ?hg (N := 1) ?hd (cs := #[.int .u64 a0_0, .int .u64 a0_1, .int .u64 a0_2, .slice A0_3 l0_3.length c0_3, .slice A0_4 l0_4.length c0_4]) (t := 26) ?hr ?_; (case hd => rfl); (case hg => rfl); (case hr => first | (go_simp; done) | (go_simp; rfl)); intro gb101 hg w58 hbox hb; have n0_ := Aside0.mk (below_step (by repeat (first | (with_reducible first | exact HB.out | apply below_alloc | apply pw_below_drewN | apply below_drew1) | exact HB.out)) hb); have n1_ := Aside0.mk (hbox); have n2_ := Aside0.mk ((by rw [hg]; exact (below_size (by repeat (first | (with_reducible first | exact HB.out | apply below_alloc | apply pw_below_drewN | apply below_drew1) | exact HB.out))) : w.heap.size ≤ gb101)); have n3_ := Aside0.mk ((by rw [hg]; exact (below_size (by repeat (first | (with_reducible first | exact HB.out | apply below_alloc | apply pw_below_drewN | apply below_drew1) | exact HB.out))) : w.heap.size ≤ gb101)); clear HB; have HB := n0_; have BK101 := n1_; have GW101 := n2_; have GE101 := n3_; clear n0_ n1_ n2_ n3_; clear hb hbox hg; have hcz59_0 : w58.cell? ⟨gb101, 0, none⟩ = some (.int .u64 a0_0) := (blk_cell BK101.out 0).trans rfl; have hcz59_1 : w58.cell? ⟨gb101, 1, none⟩ = some (.int .u64 a0_1) := (blk_cell BK101.out 1).trans rfl; have hcz59_2 : w58.cell? ⟨gb101, 2, none⟩ = some (.int .u64 a0_2) := (blk_cell BK101.out 2).trans rfl; have hcz59_3 : w58.cell? ⟨gb101, 3, none⟩ = some (.slice A0_3 l0_3.length c0_3) := (blk_cell BK101.out 3).trans rfl; have hcz59_4 : w58.cell? ⟨gb101, 4, none⟩ = some (.slice A0_4 l0_4.length c0_4) := (blk_cell BK101.out 4).trans rfl; have hfz59_0 := blk_frozen BK101.out 0; have hfz59_1 := blk_frozen BK101.out 1; have hfz59_2 := blk_frozen BK101.out 2; have hfz59_3 := blk_frozen BK101.out 3; have hfz59_4 := blk_frozen BK101.out 4) | ((with_reducible refine gate_callee (f := 20) rfl ?_); refine goesL_ (some 12) rfl rfl Tryd.func20 (by kernel_rfl) rfl #[.agg #[.int .u64 a0_0, .int .u64 a0_1, .int .u64 a0_2, .slice A0_3 l0_3.length c0_3, .slice A0_4 l0_4.length c0_4]] rfl (by (try simp only [List.map_toArray, List.map_cons, List.map_nil]); first | done | rfl | (simp only [List.length_drop, List.length_take]; rfl)) ?_; (with_reducible refine (edit_Edit_Check.calls a0_0 a0_1 a0_2 _ _ l0_3 _ _ l0_4 t102 _ ?side1 ?side2 ?side3 ?side4 A2.out).mono ?_); (case side1 => repeat (first | exact (Kd.C_below HR0_3.out HB.out) | (with_reducible refine Kd.C_alloc ?_ _) | (with_reducible refine Kd.C_drewN ?_ _) | (with_reducible refine Kd.C_drew ?_))); (case side2 => exact HC0_3.out); (case side3 => repeat (first | exact (Kd.C_below HR0_4.out HB.out) | (with_reducible refine Kd.C_alloc ?_ _) | (with_reducible refine Kd.C_drewN ?_ _) | (with_reducible refine Kd.C_drew ?_))); (case side4 => exact HC0_4.out); rintro e w60 ⟨rfl, hb⟩; refine ⟨_, rfl, ?_⟩; have n0_ := Aside0.mk (blk_below (g := gb101) (o := .cells #[.int .u64 a0_0, .int .u64 a0_1, .int .u64 a0_2, .slice A0_3 l0_3.length c0_3, .slice A0_4 l0_4.length c0_4] 26 (0, 0)) (by (with_reducible repeat (first | refine blk_drewN ?_ _ | refine blk_drew ?_ | refine blk_alloc ?_ _)); exact BK101.out) hb); have n1_ := Aside0.mk (below_step (by repeat (first | (with_reducible first | exact HB.out | apply below_alloc | apply pw_below_drewN | apply below_drew1 | refine below_set ?_ GE101.out) | exact HB.out)) hb); clear BK101; clear HB; have BK101 := n0_; have HB := n1_; clear n0_ n1_; (try clear hb); (try clear hb2); (try clear hk); (try clear hi)))
    go_ret2
    exact ⟨by first | rfl | (simp [errW_none, errW_some] <;> rfl) | (simp [*, errW_none, errW_some] <;> rfl), by repeat (first | (with_reducible first | exact HB.out | apply below_alloc | apply pw_below_drewN | apply below_drew1 | refine below_set ?_ GE101.out) | exact HB.out)⟩
end Go.Proofs.YteilnbnnhocciaaDoor.K

/-! K25 -/
namespace Go.Proofs.YteilnbnnhocciaaDoor.K
open Go.RowKit Go.Proofs.YteilnbnnhocciaaDoorW.PrintWords Go.Proofs.YteilnbnnhocciaaDoorW.PrintLast Go.Proofs.YteilnbnnhocciaaDoorW.PrintMore Go.Proofs.YteilnbnnhocciaaDoorM
attribute [local go_sem] max2_int min2_int max_two min_two max_three min_three max_four min_four
set_option linter.unusedVariables false
set_option linter.unusedSimpArgs false
def bourselaw12_Light.l0 : Nat → List (S107) → Int → Int → Int → Int → Int → List (S107) → List (S111) → Option (Bool)
  | 0, _, _, _, _, _, _, _, _ => none
  | k + 1, x6, x7, x8, x179000, x179001, x179002, x179003, x179004 => if x8 < x7 then (if 0 ≤ x8 then (if x8 < (x6.length : Int) then (if (((rd_T107 x6 x8).f1.f3).size : Int) > 300 then (some false) else (if (((rd_T107 x6 x8).f1.f4).size : Int) > 300 then (some false) else (bourselaw12_Light.l0 k x6 x7 (wrap64 (x8 + 1)) x179000 x179001 x179002 x179003 x179004))) else (none)) else (none)) else (if (x179003.length : Int) ≤ 210 then (some (decide ((x179004.length : Int) ≤ 210))) else (some false))
def bourselaw12_Light.f (k : Nat) (a0_0 : Int) (a0_1 : Int) (a0_2 : Int) (l0_3 : List (S107)) (l0_4 : List (S111)) : Option (Bool) := bourselaw12_Light.l0 k l0_3 (l0_3.length : Int) 0 a0_0 a0_1 a0_2 l0_3 l0_4
set_option maxHeartbeats 8000000 in
set_option maxRecDepth 100000 in
theorem bourselaw12_Light.calls (k : Nat) (a0_0 : Int) (a0_1 : Int) (a0_2 : Int) (A0_3 : Option Addr) (c0_3 : Nat) (l0_3 : List (S107)) (A0_4 : Option Addr) (c0_4 : Nat) (l0_4 : List (S111)) (r : Bool) (w : World) (hr0_3 : Kd.C k107 w A0_3 l0_3.length l0_3) (hc0_3 : l0_3.length ≤ c0_3) (hr0_4 : Kd.C k111 w A0_4 l0_4.length l0_4) (hc0_4 : l0_4.length ≤ c0_4) (h : bourselaw12_Light.f k a0_0 a0_1 a0_2 l0_3 l0_4 = some r) :
    Calls Tryd.prog 14 #[.agg #[.int .u64 a0_0, .int .u64 a0_1, .int .u64 a0_2, .slice A0_3 l0_3.length c0_3, .slice A0_4 l0_4.length c0_4]] w fun e w' => e = .returned (.bool r) ∧ Below w.heap.size w w' := by
  have hu26 := Tryd.underlying26
  have hu107 := Tryd.underlying107
  have HR0_3 := Aside0.mk hr0_3
  have HC0_3 := Aside0.mk hc0_3
  clear hr0_3 hc0_3
  have HR0_4 := Aside0.mk hr0_4
  have HC0_4 := Aside0.mk hc0_4
  clear hr0_4 hc0_4
  have HB := Aside0.mk (Below.refl w.heap.size w)
  have H : (bourselaw12_Light.l0 k l0_3 (l0_3.length : Int) 0 a0_0 a0_1 a0_2 l0_3 l0_4) = some r := h
  clear h
  have H' := Aside0.mk H
  clear H
  go_enter Tryd.func14, Tryd.ntmps14
  go_wp2_with (first | ((with_reducible refine gate_dst (N := 1) rfl ?_); (try (refine gate_guard (by rfl) ?_; dsimp only)); refine box_event ?hg (N := 1) ?hd (cs := #[.int .u64 a0_0, .int .u64 a0_1, .int .u64 a0_2, .slice A0_3 l0_3.length c0_3, .slice A0_4 l0_4.length c0_4]) (t := 26) ?hr ?_; (case hd => rfl); (case hg => rfl); (case hr => first | (go_simp; done) | (go_simp; rfl)); intro gb178 hg w2 hbox hb; have n0_ := Aside0.mk (below_step (by repeat (first | (with_reducible first | exact HB.out | apply below_alloc | apply pw_below_drewN | apply below_drew1) | exact HB.out)) hb); have n1_ := Aside0.mk (hbox); have n2_ := Aside0.mk ((by rw [hg]; exact (below_size (by repeat (first | (with_reducible first | exact HB.out | apply below_alloc | apply pw_below_drewN | apply below_drew1) | exact HB.out))) : w.heap.size ≤ gb178)); have n3_ := Aside0.mk ((by rw [hg]; exact (below_size (by repeat (first | (with_reducible first | exact HB.out | apply below_alloc | apply pw_below_drewN | apply below_drew1) | exact HB.out))) : w.heap.size ≤ gb178)); clear HB; have HB := n0_; have BK178 := n1_; have GW178 := n2_; have GE178 := n3_; clear n0_ n1_ n2_ n3_; clear hb hbox hg; have hcz3_0 : w2.cell? ⟨gb178, 0, none⟩ = some (.int .u64 a0_0) := (blk_cell BK178.out 0).trans rfl; have hcz3_1 : w2.cell? ⟨gb178, 1, none⟩ = some (.int .u64 a0_1) := (blk_cell BK178.out 1).trans rfl; have hcz3_2 : w2.cell? ⟨gb178, 2, none⟩ = some (.int .u64 a0_2) := (blk_cell BK178.out 2).trans rfl; have hcz3_3 : w2.cell? ⟨gb178, 3, none⟩ = some (.slice A0_3 l0_3.length c0_3) := (blk_cell BK178.out 3).trans rfl; have hcz3_4 : w2.cell? ⟨gb178, 4, none⟩ = some (.slice A0_4 l0_4.length c0_4) := (blk_cell BK178.out 4).trans rfl; have hfz3_0 := blk_frozen BK178.out 0; have hfz3_1 := blk_frozen BK178.out 1; have hfz3_2 := blk_frozen BK178.out 2; have hfz3_3 := blk_frozen BK178.out 3; have hfz3_4 := blk_frozen BK178.out 4))
  go_loopg [8] k (fun kq v8 w' => ∃ (x8_1 : Int), v8 = .int .i64 x8_1 ∧ Aside0 (bourselaw12_Light.l0 kq l0_3 (l0_3.length : Int) x8_1 a0_0 a0_1 a0_2 l0_3 l0_4 = some r) ∧ Aside0 (kq ≤ k) ∧ Aside0 (w'.heap[gb178]? = some (.cells #[.int .u64 a0_0, .int .u64 a0_1, .int .u64 a0_2, (.slice A0_3 l0_3.length c0_3), (.slice A0_4 l0_4.length c0_4)] 26 (0, 0))) ∧ Aside0 (Below w.heap.size w w'))
  case atStart => exact ⟨(0), (by first | rfl | (simp; done) | (simp [*]; done)), H', ⟨Nat.le_refl _⟩, ⟨by (with_reducible repeat (first | refine blk_drewN ?_ _ | refine blk_drew ?_ | refine blk_alloc ?_ _)); exact BK178.out⟩, ⟨by repeat (first | (with_reducible first | exact HB.out | apply below_alloc | apply pw_below_drewN | apply below_drew1 | refine below_set ?_ GE178.out) | exact HB.out)⟩⟩
  case round =>
    clear H'
    try clear c1
    try clear p2
    try clear hcz3_0
    try clear hcz3_1
    try clear hcz3_2
    try clear hcz3_3
    try clear hcz3_4
    try clear hfz3_0
    try clear hfz3_1
    try clear hfz3_2
    try clear hfz3_3
    try clear hfz3_4
    obtain ⟨x8_1, rfl, HA, HK1, BK178, HB⟩ := hrel
    cases gk with
    | zero => exact absurd HA.out (by simp [bourselaw12_Light.l0])
    | succ k1 =>
      have H := HA.out
      clear HA
      simp only [bourselaw12_Light.l0] at H
      by_cases c4 : x8_1 < (l0_3.length : Int)
      · rw [if_pos c4] at H
        have c4b0 : decide (x8_1 < (l0_3.length : Int)) = true := decide_eq_true c4
        clear c4
        by_cases c5 : 0 ≤ x8_1
        · rw [if_pos c5] at H
          have c5b0 : decide (0 ≤ x8_1) = true := decide_eq_true c5
          clear c5
          by_cases c6 : x8_1 < (l0_3.length : Int)
          · rw [if_pos c6] at H
            have c6b0 : decide (x8_1 < (l0_3.length : Int)) = true := decide_eq_true c6
            clear c6
            by_cases c7 : (((rd_T107 l0_3 x8_1).f1.f3).size : Int) > 300
            · rw [if_pos c7] at H
              have c7b0 : decide (300 < (((rd_T107 l0_3 x8_1).f1.f3).size : Int)) = true := decide_eq_true c7
              have c7b1 : decide (300 < ((rd_T107 l0_3 x8_1).f1.f3).size) = true := decide_eq_true (by omega)
              clear c7
              obtain rfl := Option.some.inj H
              have p179 : 0 ≤ (x8_1 : Int) := of_decide_eq_true (by first | (with_reducible assumption) | assumption)
              have q179 : x8_1 < (l0_3.length : Int) := of_decide_eq_true (by first | (with_reducible assumption) | assumption)
              obtain ⟨ad179, e179, hx179_0, hx179_1, hx179_2, hx179_3, hx179_4, hx179_5⟩ := at_T107 HR0_3.out x8_1 p179 q179
              cases e179
              replace hx179_0 := (HB.out.cell (World.block_lt_of_cell? w _ hx179_0)).trans hx179_0
              replace hx179_1 := (HB.out.cell (World.block_lt_of_cell? w _ hx179_1)).trans hx179_1
              replace hx179_2 := (HB.out.cell (World.block_lt_of_cell? w _ hx179_2)).trans hx179_2
              replace hx179_3 := (HB.out.cell (World.block_lt_of_cell? w _ hx179_3)).trans hx179_3
              replace hx179_4 := (HB.out.cell (World.block_lt_of_cell? w _ hx179_4)).trans hx179_4
              replace hx179_5 := (HB.out.cell (World.block_lt_of_cell? w _ hx179_5)).trans hx179_5
              replace p179 := eq_true p179
              replace q179 := eq_true q179
              go_wp2_with (first | ((with_reducible refine gate_dst (N := 4) rfl ?_); (try (refine gate_guard (by rfl) ?_; dsimp only)); refine box_event ?hg (N := 4) ?hd (cs := #[.int .i64 0, .int .u64 0, .int .u64 0, .int .u64 0, .string (⟨#[]⟩ : ByteArray), .string (⟨#[]⟩ : ByteArray)]) (t := 107) ?hr ?_; (case hd => rfl); (case hg => rfl); (case hr => first | (go_simp; done) | (go_simp; rfl)); intro gb180 hg w8 hbox hb; have n0_ := Aside0.mk (blk_below (g := gb178) (o := .cells #[.int .u64 a0_0, .int .u64 a0_1, .int .u64 a0_2, .slice (some ad179) l0_3.length c0_3, .slice A0_4 l0_4.length c0_4] 26 (0, 0)) (by (with_reducible repeat (first | refine blk_drewN ?_ _ | refine blk_drew ?_ | refine blk_alloc ?_ _)); exact BK178.out) hb); have n1_ := Aside0.mk (below_step (by repeat (first | (with_reducible first | exact HB.out | apply below_alloc | apply pw_below_drewN | apply below_drew1 | refine below_set ?_ GE178.out) | exact HB.out)) hb); have n2_ := Aside0.mk (hbox); have n3_ := Aside0.mk ((by rw [hg]; exact (below_size (by repeat (first | (with_reducible first | exact HB.out | apply below_alloc | apply pw_below_drewN | apply below_drew1 | refine below_set ?_ GE178.out) | exact HB.out))) : w.heap.size ≤ gb180)); have n4_ := Aside0.mk ((by rw [hg]; exact (below_size (by repeat (first | (with_reducible first | exact HB.out | apply below_alloc | apply pw_below_drewN | apply below_drew1 | refine below_set ?_ GE178.out) | exact HB.out))) : w.heap.size ≤ gb180)); have n5_ := Aside0.mk ((by rw [hg]; exact Nat.ne_of_lt (blk_lt (g := gb178) (o := .cells #[.int .u64 a0_0, .int .u64 a0_1, .int .u64 a0_2, .slice (some ad179) l0_3.length c0_3, .slice A0_4 l0_4.length c0_4] 26 (0, 0)) (by (with_reducible repeat (first | refine blk_drewN ?_ _ | refine blk_drew ?_ | refine blk_alloc ?_ _)); exact BK178.out)) : gb178 ≠ gb180)); have n6_ := Aside0.mk ((by rw [hg]; exact Nat.ne_of_gt (blk_lt (g := gb178) (o := .cells #[.int .u64 a0_0, .int .u64 a0_1, .int .u64 a0_2, .slice (some ad179) l0_3.length c0_3, .slice A0_4 l0_4.length c0_4] 26 (0, 0)) (by (with_reducible repeat (first | refine blk_drewN ?_ _ | refine blk_drew ?_ | refine blk_alloc ?_ _)); exact BK178.out)) : gb180 ≠ gb178)); clear BK178; clear HB; have BK178 := n0_; have HB := n1_; have BK180 := n2_; have GW180 := n3_; have GE180 := n4_; have NB178_180 := n5_; have NB180_178 := n6_; clear n0_ n1_ n2_ n3_ n4_ n5_ n6_; clear hb hbox hg; have hnb9 := NB180_178.out; have hnc9 := NB178_180.out; have hcz10_0 : w8.cell? ⟨gb180, 0, none⟩ = some (.int .i64 0) := (blk_cell BK180.out 0).trans rfl; have hcz10_1 : w8.cell? ⟨gb180, 1, none⟩ = some (.int .u64 0) := (blk_cell BK180.out 1).trans rfl; have hcz10_2 : w8.cell? ⟨gb180, 2, none⟩ = some (.int .u64 0) := (blk_cell BK180.out 2).trans rfl; have hcz10_3 : w8.cell? ⟨gb180, 3, none⟩ = some (.int .u64 0) := (blk_cell BK180.out 3).trans rfl; have hcz10_4 : w8.cell? ⟨gb180, 4, none⟩ = some (.string (⟨#[]⟩ : ByteArray)) := (blk_cell BK180.out 4).trans rfl; have hcz10_5 : w8.cell? ⟨gb180, 5, none⟩ = some (.string (⟨#[]⟩ : ByteArray)) := (blk_cell BK180.out 5).trans rfl; have hfz10_0 := blk_frozen BK180.out 0; have hfz10_1 := blk_frozen BK180.out 1; have hfz10_2 := blk_frozen BK180.out 2; have hfz10_3 := blk_frozen BK180.out 3; have hfz10_4 := blk_frozen BK180.out 4; have hfz10_5 := blk_frozen BK180.out 5))
              go_ret
              exact ⟨by first | rfl | (simp [errW_none, errW_some] <;> rfl) | (simp [*, errW_none, errW_some] <;> rfl), by repeat (first | (with_reducible first | exact HB.out | apply below_alloc | apply pw_below_drewN | apply below_drew1 | refine below_set ?_ GE178.out | refine below_set ?_ GE180.out) | exact HB.out)⟩
            · rw [if_neg c7] at H
              have c7b0 : decide (300 < (((rd_T107 l0_3 x8_1).f1.f3).size : Int)) = false := decide_eq_false c7
              have c7b1 : decide (300 < ((rd_T107 l0_3 x8_1).f1.f3).size) = false := decide_eq_false (by omega)
              clear c7
              by_cases c11 : (((rd_T107 l0_3 x8_1).f1.f4).size : Int) > 300
              · rw [if_pos c11] at H
                have c11b0 : decide (300 < (((rd_T107 l0_3 x8_1).f1.f4).size : Int)) = true := decide_eq_true c11
                have c11b1 : decide (300 < ((rd_T107 l0_3 x8_1).f1.f4).size) = true := decide_eq_true (by omega)
                clear c11
                obtain rfl := Option.some.inj H
                have p179 : 0 ≤ (x8_1 : Int) := of_decide_eq_true (by first | (with_reducible assumption) | assumption)
                have q179 : x8_1 < (l0_3.length : Int) := of_decide_eq_true (by first | (with_reducible assumption) | assumption)
                obtain ⟨ad179, e179, hx179_0, hx179_1, hx179_2, hx179_3, hx179_4, hx179_5⟩ := at_T107 HR0_3.out x8_1 p179 q179
                cases e179
                replace hx179_0 := (HB.out.cell (World.block_lt_of_cell? w _ hx179_0)).trans hx179_0
                replace hx179_1 := (HB.out.cell (World.block_lt_of_cell? w _ hx179_1)).trans hx179_1
                replace hx179_2 := (HB.out.cell (World.block_lt_of_cell? w _ hx179_2)).trans hx179_2
                replace hx179_3 := (HB.out.cell (World.block_lt_of_cell? w _ hx179_3)).trans hx179_3
                replace hx179_4 := (HB.out.cell (World.block_lt_of_cell? w _ hx179_4)).trans hx179_4
                replace hx179_5 := (HB.out.cell (World.block_lt_of_cell? w _ hx179_5)).trans hx179_5
                replace p179 := eq_true p179
                replace q179 := eq_true q179
                go_wp2_with (first | ((with_reducible refine gate_dst (N := 4) rfl ?_); (try (refine gate_guard (by rfl) ?_; dsimp only)); refine box_event ?hg (N := 4) ?hd (cs := #[.int .i64 0, .int .u64 0, .int .u64 0, .int .u64 0, .string (⟨#[]⟩ : ByteArray), .string (⟨#[]⟩ : ByteArray)]) (t := 107) ?hr ?_; (case hd => rfl); (case hg => rfl); (case hr => first | (go_simp; done) | (go_simp; rfl)); intro gb180 hg w12 hbox hb; have n0_ := Aside0.mk (blk_below (g := gb178) (o := .cells #[.int .u64 a0_0, .int .u64 a0_1, .int .u64 a0_2, .slice (some ad179) l0_3.length c0_3, .slice A0_4 l0_4.length c0_4] 26 (0, 0)) (by (with_reducible repeat (first | refine blk_drewN ?_ _ | refine blk_drew ?_ | refine blk_alloc ?_ _)); exact BK178.out) hb); have n1_ := Aside0.mk (below_step (by repeat (first | (with_reducible first | exact HB.out | apply below_alloc | apply pw_below_drewN | apply below_drew1 | refine below_set ?_ GE178.out) | exact HB.out)) hb); have n2_ := Aside0.mk (hbox); have n3_ := Aside0.mk ((by rw [hg]; exact (below_size (by repeat (first | (with_reducible first | exact HB.out | apply below_alloc | apply pw_below_drewN | apply below_drew1 | refine below_set ?_ GE178.out) | exact HB.out))) : w.heap.size ≤ gb180)); have n4_ := Aside0.mk ((by rw [hg]; exact (below_size (by repeat (first | (with_reducible first | exact HB.out | apply below_alloc | apply pw_below_drewN | apply below_drew1 | refine below_set ?_ GE178.out) | exact HB.out))) : w.heap.size ≤ gb180)); have n5_ := Aside0.mk ((by rw [hg]; exact Nat.ne_of_lt (blk_lt (g := gb178) (o := .cells #[.int .u64 a0_0, .int .u64 a0_1, .int .u64 a0_2, .slice (some ad179) l0_3.length c0_3, .slice A0_4 l0_4.length c0_4] 26 (0, 0)) (by (with_reducible repeat (first | refine blk_drewN ?_ _ | refine blk_drew ?_ | refine blk_alloc ?_ _)); exact BK178.out)) : gb178 ≠ gb180)); have n6_ := Aside0.mk ((by rw [hg]; exact Nat.ne_of_gt (blk_lt (g := gb178) (o := .cells #[.int .u64 a0_0, .int .u64 a0_1, .int .u64 a0_2, .slice (some ad179) l0_3.length c0_3, .slice A0_4 l0_4.length c0_4] 26 (0, 0)) (by (with_reducible repeat (first | refine blk_drewN ?_ _ | refine blk_drew ?_ | refine blk_alloc ?_ _)); exact BK178.out)) : gb180 ≠ gb178)); clear BK178; clear HB; have BK178 := n0_; have HB := n1_; have BK180 := n2_; have GW180 := n3_; have GE180 := n4_; have NB178_180 := n5_; have NB180_178 := n6_; clear n0_ n1_ n2_ n3_ n4_ n5_ n6_; clear hb hbox hg; have hnb13 := NB180_178.out; have hnc13 := NB178_180.out; have hcz14_0 : w12.cell? ⟨gb180, 0, none⟩ = some (.int .i64 0) := (blk_cell BK180.out 0).trans rfl; have hcz14_1 : w12.cell? ⟨gb180, 1, none⟩ = some (.int .u64 0) := (blk_cell BK180.out 1).trans rfl; have hcz14_2 : w12.cell? ⟨gb180, 2, none⟩ = some (.int .u64 0) := (blk_cell BK180.out 2).trans rfl; have hcz14_3 : w12.cell? ⟨gb180, 3, none⟩ = some (.int .u64 0) := (blk_cell BK180.out 3).trans rfl; have hcz14_4 : w12.cell? ⟨gb180, 4, none⟩ = some (.string (⟨#[]⟩ : ByteArray)) := (blk_cell BK180.out 4).trans rfl; have hcz14_5 : w12.cell? ⟨gb180, 5, none⟩ = some (.string (⟨#[]⟩ : ByteArray)) := (blk_cell BK180.out 5).trans rfl; have hfz14_0 := blk_frozen BK180.out 0; have hfz14_1 := blk_frozen BK180.out 1; have hfz14_2 := blk_frozen BK180.out 2; have hfz14_3 := blk_frozen BK180.out 3; have hfz14_4 := blk_frozen BK180.out 4; have hfz14_5 := blk_frozen BK180.out 5))
                go_ret
                exact ⟨by first | rfl | (simp [errW_none, errW_some] <;> rfl) | (simp [*, errW_none, errW_some] <;> rfl), by repeat (first | (with_reducible first | exact HB.out | apply below_alloc | apply pw_below_drewN | apply below_drew1 | refine below_set ?_ GE178.out | refine below_set ?_ GE180.out) | exact HB.out)⟩
              · rw [if_neg c11] at H
                have c11b0 : decide (300 < (((rd_T107 l0_3 x8_1).f1.f4).size : Int)) = false := decide_eq_false c11
                have c11b1 : decide (300 < ((rd_T107 l0_3 x8_1).f1.f4).size) = false := decide_eq_false (by omega)
                clear c11
                have H' := Aside0.mk H
                clear H
                have p179 : 0 ≤ (x8_1 : Int) := of_decide_eq_true (by first | (with_reducible assumption) | assumption)
                have q179 : x8_1 < (l0_3.length : Int) := of_decide_eq_true (by first | (with_reducible assumption) | assumption)
                obtain ⟨ad179, e179, hx179_0, hx179_1, hx179_2, hx179_3, hx179_4, hx179_5⟩ := at_T107 HR0_3.out x8_1 p179 q179
                cases e179
                replace hx179_0 := (HB.out.cell (World.block_lt_of_cell? w _ hx179_0)).trans hx179_0
                replace hx179_1 := (HB.out.cell (World.block_lt_of_cell? w _ hx179_1)).trans hx179_1
                replace hx179_2 := (HB.out.cell (World.block_lt_of_cell? w _ hx179_2)).trans hx179_2
                replace hx179_3 := (HB.out.cell (World.block_lt_of_cell? w _ hx179_3)).trans hx179_3
                replace hx179_4 := (HB.out.cell (World.block_lt_of_cell? w _ hx179_4)).trans hx179_4
                replace hx179_5 := (HB.out.cell (World.block_lt_of_cell? w _ hx179_5)).trans hx179_5
                replace p179 := eq_true p179
                replace q179 := eq_true q179
                go_wp2_with (first | ((with_reducible refine gate_dst (N := 4) rfl ?_); (try (refine gate_guard (by rfl) ?_; dsimp only)); refine box_event ?hg (N := 4) ?hd (cs := #[.int .i64 0, .int .u64 0, .int .u64 0, .int .u64 0, .string (⟨#[]⟩ : ByteArray), .string (⟨#[]⟩ : ByteArray)]) (t := 107) ?hr ?_; (case hd => rfl); (case hg => rfl); (case hr => first | (go_simp; done) | (go_simp; rfl)); intro gb180 hg w15 hbox hb; have n0_ := Aside0.mk (blk_below (g := gb178) (o := .cells #[.int .u64 a0_0, .int .u64 a0_1, .int .u64 a0_2, .slice (some ad179) l0_3.length c0_3, .slice A0_4 l0_4.length c0_4] 26 (0, 0)) (by (with_reducible repeat (first | refine blk_drewN ?_ _ | refine blk_drew ?_ | refine blk_alloc ?_ _)); exact BK178.out) hb); have n1_ := Aside0.mk (below_step (by repeat (first | (with_reducible first | exact HB.out | apply below_alloc | apply pw_below_drewN | apply below_drew1 | refine below_set ?_ GE178.out) | exact HB.out)) hb); have n2_ := Aside0.mk (hbox); have n3_ := Aside0.mk ((by rw [hg]; exact (below_size (by repeat (first | (with_reducible first | exact HB.out | apply below_alloc | apply pw_below_drewN | apply below_drew1 | refine below_set ?_ GE178.out) | exact HB.out))) : w.heap.size ≤ gb180)); have n4_ := Aside0.mk ((by rw [hg]; exact (below_size (by repeat (first | (with_reducible first | exact HB.out | apply below_alloc | apply pw_below_drewN | apply below_drew1 | refine below_set ?_ GE178.out) | exact HB.out))) : w.heap.size ≤ gb180)); have n5_ := Aside0.mk ((by rw [hg]; exact Nat.ne_of_lt (blk_lt (g := gb178) (o := .cells #[.int .u64 a0_0, .int .u64 a0_1, .int .u64 a0_2, .slice (some ad179) l0_3.length c0_3, .slice A0_4 l0_4.length c0_4] 26 (0, 0)) (by (with_reducible repeat (first | refine blk_drewN ?_ _ | refine blk_drew ?_ | refine blk_alloc ?_ _)); exact BK178.out)) : gb178 ≠ gb180)); have n6_ := Aside0.mk ((by rw [hg]; exact Nat.ne_of_gt (blk_lt (g := gb178) (o := .cells #[.int .u64 a0_0, .int .u64 a0_1, .int .u64 a0_2, .slice (some ad179) l0_3.length c0_3, .slice A0_4 l0_4.length c0_4] 26 (0, 0)) (by (with_reducible repeat (first | refine blk_drewN ?_ _ | refine blk_drew ?_ | refine blk_alloc ?_ _)); exact BK178.out)) : gb180 ≠ gb178)); clear BK178; clear HB; have BK178 := n0_; have HB := n1_; have BK180 := n2_; have GW180 := n3_; have GE180 := n4_; have NB178_180 := n5_; have NB180_178 := n6_; clear n0_ n1_ n2_ n3_ n4_ n5_ n6_; clear hb hbox hg; have hnb16 := NB180_178.out; have hnc16 := NB178_180.out; have hcz17_0 : w15.cell? ⟨gb180, 0, none⟩ = some (.int .i64 0) := (blk_cell BK180.out 0).trans rfl; have hcz17_1 : w15.cell? ⟨gb180, 1, none⟩ = some (.int .u64 0) := (blk_cell BK180.out 1).trans rfl; have hcz17_2 : w15.cell? ⟨gb180, 2, none⟩ = some (.int .u64 0) := (blk_cell BK180.out 2).trans rfl; have hcz17_3 : w15.cell? ⟨gb180, 3, none⟩ = some (.int .u64 0) := (blk_cell BK180.out 3).trans rfl; have hcz17_4 : w15.cell? ⟨gb180, 4, none⟩ = some (.string (⟨#[]⟩ : ByteArray)) := (blk_cell BK180.out 4).trans rfl; have hcz17_5 : w15.cell? ⟨gb180, 5, none⟩ = some (.string (⟨#[]⟩ : ByteArray)) := (blk_cell BK180.out 5).trans rfl; have hfz17_0 := blk_frozen BK180.out 0; have hfz17_1 := blk_frozen BK180.out 1; have hfz17_2 := blk_frozen BK180.out 2; have hfz17_3 := blk_frozen BK180.out 3; have hfz17_4 := blk_frozen BK180.out 4; have hfz17_5 := blk_frozen BK180.out 5))
                go_roundg k1
                case measure => have := HK1.out; omega
                case rel => exact ⟨(wrap64 (x8_1 + 1)), (by first | rfl | (simp; done) | (simp [*]; done)), H', ⟨by have := HK1.out; omega⟩, ⟨by (with_reducible repeat (first | refine blk_drewN ?_ _ | refine blk_drew ?_ | refine blk_alloc ?_ _)); refine blk_far ?_ NB178_180.out _; (with_reducible repeat (first | refine blk_drewN ?_ _ | refine blk_drew ?_ | refine blk_alloc ?_ _)); refine blk_far ?_ NB178_180.out _; (with_reducible repeat (first | refine blk_drewN ?_ _ | refine blk_drew ?_ | refine blk_alloc ?_ _)); refine blk_far ?_ NB178_180.out _; (with_reducible repeat (first | refine blk_drewN ?_ _ | refine blk_drew ?_ | refine blk_alloc ?_ _)); refine blk_far ?_ NB178_180.out _; (with_reducible repeat (first | refine blk_drewN ?_ _ | refine blk_drew ?_ | refine blk_alloc ?_ _)); refine blk_far ?_ NB178_180.out _; (with_reducible repeat (first | refine blk_drewN ?_ _ | refine blk_drew ?_ | refine blk_alloc ?_ _)); refine blk_far ?_ NB178_180.out _; (with_reducible repeat (first | refine blk_drewN ?_ _ | refine blk_drew ?_ | refine blk_alloc ?_ _)); exact BK178.out⟩, ⟨by repeat (first | (with_reducible first | exact HB.out | apply below_alloc | apply pw_below_drewN | apply below_drew1 | refine below_set ?_ GE178.out | refine below_set ?_ GE180.out) | exact HB.out)⟩⟩
          · rw [if_neg c6] at H
            exact absurd H (by simp)
        · rw [if_neg c5] at H
          exact absurd H (by simp)
      · rw [if_neg c4] at H
        have c4b0 : decide (x8_1 < (l0_3.length : Int)) = false := decide_eq_false c4
        clear c4
        by_cases c18 : (l0_3.length : Int) ≤ 210
        · rw [if_pos c18] at H
          have c18b0 : decide ((l0_3.length : Int) ≤ 210) = true := decide_eq_true c18
          have c18b1 : decide (l0_3.length ≤ 210) = true := decide_eq_true (by omega)
          clear c18
          obtain rfl := Option.some.inj H
          have hcz19_0 : wr.cell? ⟨gb178, 0, none⟩ = some (.int .u64 a0_0) := (blk_cell BK178.out 0).trans rfl
          have hcz19_1 : wr.cell? ⟨gb178, 1, none⟩ = some (.int .u64 a0_1) := (blk_cell BK178.out 1).trans rfl
          have hcz19_2 : wr.cell? ⟨gb178, 2, none⟩ = some (.int .u64 a0_2) := (blk_cell BK178.out 2).trans rfl
          have hcz19_3 : wr.cell? ⟨gb178, 3, none⟩ = some (.slice A0_3 l0_3.length c0_3) := (blk_cell BK178.out 3).trans rfl
          have hcz19_4 : wr.cell? ⟨gb178, 4, none⟩ = some (.slice A0_4 l0_4.length c0_4) := (blk_cell BK178.out 4).trans rfl
          have hfz19_0 := blk_frozen BK178.out 0
          have hfz19_1 := blk_frozen BK178.out 1
          have hfz19_2 := blk_frozen BK178.out 2
          have hfz19_3 := blk_frozen BK178.out 3
          have hfz19_4 := blk_frozen BK178.out 4
          go_wp2
          go_ret
          exact ⟨by first | rfl | (simp [errW_none, errW_some] <;> rfl) | (simp [*, errW_none, errW_some] <;> rfl), by repeat (first | (with_reducible first | exact HB.out | apply below_alloc | apply pw_below_drewN | apply below_drew1 | refine below_set ?_ GE178.out) | exact HB.out)⟩
        · rw [if_neg c18] at H
          have c18b0 : decide ((l0_3.length : Int) ≤ 210) = false := decide_eq_false c18
          have c18b1 : decide (l0_3.length ≤ 210) = false := decide_eq_false (by omega)
          clear c18
          obtain rfl := Option.some.inj H
          have hcz20_0 : wr.cell? ⟨gb178, 0, none⟩ = some (.int .u64 a0_0) := (blk_cell BK178.out 0).trans rfl
          have hcz20_1 : wr.cell? ⟨gb178, 1, none⟩ = some (.int .u64 a0_1) := (blk_cell BK178.out 1).trans rfl
          have hcz20_2 : wr.cell? ⟨gb178, 2, none⟩ = some (.int .u64 a0_2) := (blk_cell BK178.out 2).trans rfl
          have hcz20_3 : wr.cell? ⟨gb178, 3, none⟩ = some (.slice A0_3 l0_3.length c0_3) := (blk_cell BK178.out 3).trans rfl
          have hcz20_4 : wr.cell? ⟨gb178, 4, none⟩ = some (.slice A0_4 l0_4.length c0_4) := (blk_cell BK178.out 4).trans rfl
          have hfz20_0 := blk_frozen BK178.out 0
          have hfz20_1 := blk_frozen BK178.out 1
          have hfz20_2 := blk_frozen BK178.out 2
          have hfz20_3 := blk_frozen BK178.out 3
          have hfz20_4 := blk_frozen BK178.out 4
          go_wp2
          go_ret
          exact ⟨by first | rfl | (simp [errW_none, errW_some] <;> rfl) | (simp [*, errW_none, errW_some] <;> rfl), by repeat (first | (with_reducible first | exact HB.out | apply below_alloc | apply pw_below_drewN | apply below_drew1 | refine below_set ?_ GE178.out) | exact HB.out)⟩
end Go.Proofs.YteilnbnnhocciaaDoor.K

/-! E4 -/
set_option linter.unusedVariables false
namespace Go.Proofs.YteilnbnnhocciaaDoor.E
open Go.RowKit Go.Proofs.YteilnbnnhocciaaDoorW.PrintWords Go.Proofs.YteilnbnnhocciaaDoorW.PrintMore Go.Proofs.YteilnbnnhocciaaDoorM Go.Proofs.YteilnbnnhocciaaDoor.K
def B (l : List UInt8) : ByteArray := ⟨l.toArray⟩
theorem B_app (l m : List UInt8) : B l ++ B m = B (l ++ m) := ByteArray.mk_append_mk l m
theorem B_size (l : List UInt8) : (B l).size = l.length := by simp [B, ByteArray.size]
theorem B_of (s : ByteArray) : s = B s.data.toList := list_ext rfl
theorem enc_le {n : Nat} (h : n < 18446744073709551616) : (enc n).length ≤ 10 := by
  have h9 : (128 : Nat) ^ (9 + 1) = 1180591620717411303424 := by decide
  exact enc_len 9 n (by rw [h9]; omega)
theorem num_I (v : Int) (k : Nat) (h : u64 v) (hk : 10 ≤ k) : varint_Num.f k v = some (B (encI v)) := by
  obtain ⟨n, rfl⟩ := Int.eq_ofNat_of_zero_le h.1
  have h2 := h.2
  rw [num_f n k (by omega) hk, encI, Int.toNat_natCast]
  rfl
theorem nums_go (k : Nat) (hk : 10 ≤ k) : ∀ (xs : List Int) (acc : List UInt8), (∀ x ∈ xs, u64 x) → acc.length + xs.length * 10 ≤ 1000000 → edit_nums.go k xs (B acc) = some (B (acc ++ xs.flatMap encI)) := by
  intro xs
  induction xs with
  | nil => intro acc _ _; simp [edit_nums.go]
  | cons x xs ih =>
    intro acc h hl
    have hx := h x (by simp)
    have hle : (encI x).length ≤ 10 := enc_le (by have := hx.1; have := hx.2; omega)
    rw [edit_nums.go, num_I x k hx hk]
    simp only [Option.bind_some]
    rw [B_size, B_size, if_pos (by simp at hl; omega), B_app, ih (acc ++ encI x) (fun y hy => h y (by simp [hy])) (by simp at hl ⊢; omega)]
    simp
theorem nums_f (k : Nat) (hk : 10 ≤ k) (xs : List Int) (h : ∀ x ∈ xs, u64 x) (hl : xs.length ≤ 100) : edit_nums.f k xs = some (B (xs.flatMap encI)) := by
  have := nums_go k hk xs [] h (by simp; omega)
  simpa [edit_nums.f, B] using this
theorem text_f (k : Nat) (hk : 10 ≤ k) (t : ByteArray) (h : t.size ≤ 100000) : varint_Text.f k t = some (B (encT t)) := by
  unfold varint_Text.f
  have hw : IntKind.u64.wrap ((t.size : Int)) = (t.size : Int) := by rw [IntKind.wrap_u64]; omega
  rw [hw, num_I _ k ⟨by omega, by omega⟩ hk]
  simp only [Option.bind_some]
  have hle : (encI (t.size : Int)).length ≤ 10 := enc_le (by omega)
  rw [B_size, if_pos (by omega)]
  have h2 : encI (t.size : Int) = enc t.size := by rw [encI, Int.toNat_natCast]
  rw [h2, encT]
  first | rfl | (congr 1; rw [← B_app, ← B_of])
theorem rd107 {l : List S107} {i : Nat} (h : i < l.length) : rd_T107 l (i : Int) = l[i] := by simp [rd_T107, List.getD, h]
theorem rd111 {l : List S111} {i : Nat} (h : i < l.length) : rd_T111 l (i : Int) = l[i] := by simp [rd_T111, List.getD, h]
theorem ser107_le {a : S107} (h : ok107 a) : (ser107 a).length ≤ 460 := by
  obtain ⟨h0, h1, h2, h3, h4, h5⟩ := h
  have l0 : (encI a.f0).length ≤ 10 := enc_le (by omega)
  have l1 : (encI a.f1.f0).length ≤ 10 := enc_le (by have := h1.1; have := h1.2; omega)
  have l2 : (encI a.f1.f1).length ≤ 10 := enc_le (by have := h2.1; have := h2.2; omega)
  have l3 : (encI a.f1.f2).length ≤ 10 := enc_le (by have := h3.1; have := h3.2; omega)
  have l4 : (enc a.f1.f3.size).length ≤ 10 := enc_le (by omega)
  have l5 : (enc a.f1.f4.size).length ≤ 10 := enc_le (by omega)
  simp [ser107, encT]; omega
theorem ser111_le {a : S111} (h : ok111 a) : (ser111 a).length ≤ 20 := by
  obtain ⟨h0, h1⟩ := h
  have l0 : (encI a.f0).length ≤ 10 := enc_le (by omega)
  have l1 : (encI a.f1).length ≤ 10 := enc_le (by have := h1.1; have := h1.2; omega)
  simp [ser111]; omega
theorem w64 {i n : Nat} (h : i < n) (hn : n ≤ 200) : wrap64 ((i : Int) + 1) = ((i + 1 : Nat) : Int) := by rw [wrap_in (by omega) (by omega)]; omega
theorem bytes_l1 : ∀ (d k i : Nat) (acc : List UInt8) (g : List S111), i + d = g.length → d + 11 ≤ k → g.length ≤ 200 → (∀ a ∈ g, ok111 a) → acc.length + d * 20 ≤ 1000000 →
    edit_Edit_Bytes.l1 k (B acc) g (g.length : Int) (i : Int) = some (B (acc ++ (g.drop i).flatMap ser111), 0) := by
  intro d
  induction d with
  | zero =>
    intro k i acc g hi hk hg ho hl
    obtain ⟨k, rfl⟩ : ∃ k', k = k' + 1 := ⟨k - 1, by omega⟩
    rw [edit_Edit_Bytes.l1, if_neg (by omega), List.drop_of_length_le (by omega)]
    simp
  | succ d ih =>
    intro k i acc g hi hk hg ho hl
    obtain ⟨k, rfl⟩ : ∃ k', k = k' + 1 := ⟨k - 1, by omega⟩
    have hlt : i < g.length := by omega
    have ha := ho g[i] (List.getElem_mem hlt)
    rw [edit_Edit_Bytes.l1, if_pos (by omega), if_pos (by omega), if_pos (by omega), rd111 hlt]
    have hw : IntKind.u64.wrap (g[i]).f0 = (g[i]).f0 := by rw [IntKind.wrap_u64]; have := ha.1; omega
    rw [hw, nums_f k (by omega) _ (by
      intro x hx
      have h1 := ha.1
      have h2 := ha.2
      simp at hx
      rcases hx with rfl | rfl
      · exact ⟨h1.1, by omega⟩
      · exact h2) (by simp)]
    simp only [Option.bind_some]
    have hs := ser111_le ha
    have he : [(g[i]).f0, (g[i]).f1].flatMap encI = ser111 g[i] := by simp [ser111]
    rw [he, B_size, B_size, if_pos (by omega), B_app, w64 hlt hg, ih k (i + 1) (acc ++ ser111 g[i]) g (by omega) (by omega) hg ho (by simp; omega), List.drop_eq_getElem_cons hlt, List.flatMap_cons]
    simp only [List.append_assoc]
set_option maxRecDepth 20000 in
theorem bytes_l0 : ∀ (d k i : Nat) (acc : List UInt8) (c : List S107) (g : List S111) (x y z : Int), i + d = c.length → d + g.length + 20 ≤ k → c.length ≤ 200 → g.length ≤ 200 → (∀ a ∈ c, ok107 a) → (∀ a ∈ g, ok111 a) → acc.length + d * 460 ≤ 200000 →
    edit_Edit_Bytes.l0 k (B acc) c (c.length : Int) (i : Int) x y z c g = some (B (acc ++ ((c.drop i).flatMap ser107 ++ (enc g.length ++ g.flatMap ser111))), 0) := by
  intro d
  induction d with
  | zero =>
    intro k i acc c g x y z hi hk hc hg ho ho2 hl
    obtain ⟨k, rfl⟩ : ∃ k', k = k' + 1 := ⟨k - 1, by omega⟩
    rw [edit_Edit_Bytes.l0, if_neg (by omega), List.drop_of_length_le (by omega)]
    have hw : IntKind.u64.wrap (g.length : Int) = (g.length : Int) := by rw [IntKind.wrap_u64]; omega
    rw [hw, nums_f k (by omega) _ (by intro v hv; simp at hv; subst hv; exact ⟨by omega, by omega⟩) (by simp)]
    simp only [Option.bind_some]
    have he : [(g.length : Int)].flatMap encI = enc g.length := by simp [encI]
    have hle : (enc g.length).length ≤ 10 := enc_le (by omega)
    rw [he, B_size, B_size, if_pos (by omega), B_app]
    have := bytes_l1 g.length k 0 (acc ++ enc g.length) g (by omega) (by omega) hg ho2 (by simp; omega)
    simpa using this
  | succ d ih =>
    intro k i acc c g x y z hi hk hc hg ho ho2 hl
    obtain ⟨k, rfl⟩ : ∃ k', k = k' + 1 := ⟨k - 1, by omega⟩
    have hlt : i < c.length := by omega
    have ha := ho c[i] (List.getElem_mem hlt)
    rw [edit_Edit_Bytes.l0, if_pos (by omega), if_pos (by omega), if_pos (by omega), rd107 hlt]
    have hw : IntKind.u64.wrap (c[i]).f0 = (c[i]).f0 := by rw [IntKind.wrap_u64]; have := ha.1; omega
    obtain ⟨h0, h1, h2, h3, h4, h5⟩ := ha
    rw [hw, nums_f k (by omega) _ (by
      intro v hv
      simp at hv
      rcases hv with rfl | rfl | rfl | rfl
      · exact ⟨h0.1, by omega⟩
      · exact h1
      · exact h2
      · exact h3) (by simp), text_f k (by omega) _ (by omega), text_f k (by omega) _ (by omega)]
    simp only [Option.bind_some]
    have hs := ser107_le (a := c[i]) ⟨h0, h1, h2, h3, h4, h5⟩
    have he : ([(c[i]).f0, (c[i]).f1.f0, (c[i]).f1.f1, (c[i]).f1.f2].flatMap encI ++ encT (c[i]).f1.f3) ++ encT (c[i]).f1.f4 = ser107 c[i] := by simp [ser107]
    have hsz : ([(c[i]).f0, (c[i]).f1.f0, (c[i]).f1.f1, (c[i]).f1.f2].flatMap encI).length + (encT (c[i]).f1.f3).length + (encT (c[i]).f1.f4).length = (ser107 c[i]).length := by rw [← he]; simp; omega
    rw [B_size, B_size, if_pos (by omega), B_app, B_size, B_size, if_pos (by rw [List.length_append]; omega), B_app, he, B_size, B_size, if_pos (by omega), B_app, w64 hlt hc, ih k (i + 1) (acc ++ ser107 c[i]) c g x y z (by omega) (by omega) hc hg ho ho2 (by simp; omega), List.drop_eq_getElem_cons hlt, List.flatMap_cons]
    simp only [List.append_assoc]
theorem bytes_f (k : Nat) (hk : 1000 ≤ k) {lg nx sq : Int} {c : List S107} {g : List S111} (h : okE lg nx sq c g) (hv : edit_Edit_Check.val c g = 0) : edit_Edit_Bytes.f k lg nx sq c g = some (B (serE lg nx sq c g), 0) := by
  have hcl := h.hcl
  have hgl := h.hgl
  unfold edit_Edit_Bytes.f edit_Edit_Check.f
  simp only [Option.bind_some]
  rw [if_pos hv]
  have hw : IntKind.u64.wrap (c.length : Int) = (c.length : Int) := by rw [IntKind.wrap_u64]; omega
  rw [hw, nums_f k (by omega) _ (by
    intro v hv
    simp at hv
    rcases hv with rfl | rfl | rfl | rfl
    · exact h.hlg
    · exact h.hnx
    · exact h.hsq
    · exact ⟨by omega, by omega⟩) (by simp)]
  simp only [Option.bind_some]
  have l1 : (encI lg).length ≤ 10 := enc_le (by have := h.hlg.1; have := h.hlg.2; omega)
  have l2 : (encI nx).length ≤ 10 := enc_le (by have := h.hnx.1; have := h.hnx.2; omega)
  have l3 : (encI sq).length ≤ 10 := enc_le (by have := h.hsq.1; have := h.hsq.2; omega)
  have l4 : (enc c.length).length ≤ 10 := enc_le (by omega)
  have he : [lg, nx, sq, (c.length : Int)].flatMap encI = encI lg ++ (encI nx ++ (encI sq ++ enc c.length)) := by simp [encI]
  rw [he]
  have := bytes_l0 c.length k 0 (encI lg ++ (encI nx ++ (encI sq ++ enc c.length))) c g lg nx sq (by omega) (by omega) hcl hgl h.hc h.hg (by simp; omega)
  rw [show ((0 : Nat) : Int) = 0 from rfl] at this
  rw [this]
  simp [serE]
theorem bytes_bad (k : Nat) {lg nx sq : Int} {c : List S107} {g : List S111} (hv : edit_Edit_Check.val c g ≠ 0) : edit_Edit_Bytes.f k lg nx sq c g = some (⟨#[]⟩, edit_Edit_Check.val c g) := by
  unfold edit_Edit_Bytes.f edit_Edit_Check.f
  simp only [Option.bind_some]
  rw [if_neg hv]
end Go.Proofs.YteilnbnnhocciaaDoor.E

/-! E50 -/
set_option linter.unusedVariables false
namespace Go.Proofs.YteilnbnnhocciaaDoor.E
open Go.RowKit Go.Proofs.YteilnbnnhocciaaDoorW.PrintWords Go.Proofs.YteilnbnnhocciaaDoorW.PrintMore Go.Proofs.YteilnbnnhocciaaDoorM Go.Proofs.YteilnbnnhocciaaDoor.K
def arg107 (a : S107) : Prop := u64 a.f1.f0 ∧ u64 a.f1.f1 ∧ u64 a.f1.f2
def arg111 (a : S111) : Prop := u64 a.f1
theorem wrong_zero {lv num : Int} {l m : ByteArray} (h : edit_wrong.val lv num l m = 0) : (0 ≤ lv ∧ lv < 4) ∧ l.size ≤ 200 ∧ m.size ≤ 200 := by
  unfold edit_wrong.val at h
  by_cases h1 : edit_levelB lv = false
  · rw [if_pos h1] at h; cases h
  · rw [if_neg h1] at h
    by_cases h2 : (edit_keyedB l && edit_keyedB m && !Op.bytesLess m.toList l.toList) = false
    · rw [if_pos h2] at h; cases h
    · have h3 : edit_levelB lv = true := by simpa using h1
      have h4 : (edit_keyedB l && edit_keyedB m && !Op.bytesLess m.toList l.toList) = true := by
        revert h2
        cases (edit_keyedB l && edit_keyedB m && !Op.bytesLess m.toList l.toList) <;> simp
      simp only [Bool.and_eq_true] at h4
      obtain ⟨⟨k1, k2⟩, _⟩ := h4
      exact ⟨of_decide_eq_true h3, (of_decide_eq_true k1).2, (of_decide_eq_true k2).2⟩
theorem first_zero : ∀ {c : List S107}, edit_firstWrong c = 0 → ∀ a ∈ c, edit_wrong.val a.f0 a.f1.f0 a.f1.f3 a.f1.f4 = 0 := by
  intro c
  induction c with
  | nil => intro _ a ha; cases ha
  | cons b c ih =>
    intro h a ha
    rw [edit_firstWrong] at h
    by_cases hb : edit_wrong.val b.f0 b.f1.f0 b.f1.f3 b.f1.f4 = 0
    · rw [if_pos hb] at h
      rcases List.mem_cons.1 ha with rfl | ha
      · exact hb
      · exact ih h a ha
    · rw [if_neg hb] at h; exact absurd h hb
theorem check_ok {lg nx sq : Int} {c : List S107} {g : List S111} (h : edit_Edit_Check.val c g = 0) (h1 : u64 lg) (h2 : u64 nx) (h3 : u64 sq) (hc : ∀ a ∈ c, arg107 a) (hg : ∀ a ∈ g, arg111 a) : okE lg nx sq c g := by
  unfold edit_Edit_Check.val at h
  by_cases k1 : 200 < c.length ∨ 200 < g.length
  · rw [if_pos k1] at h; cases h
  · rw [if_neg k1] at h
    by_cases k2 : edit_firstWrong c ≠ 0
    · rw [if_pos k2] at h; exact absurd h k2
    · rw [if_neg k2] at h
      by_cases k3 : g.any edit_goneB = true
      · rw [if_pos k3] at h; cases h
      · refine ⟨h1, h2, h3, fun a ha => ?_, fun a ha => ?_, by omega, by omega⟩
        · obtain ⟨l1, l2, l3⟩ := wrong_zero (first_zero (by simpa using k2) a ha)
          obtain ⟨m1, m2, m3⟩ := hc a ha
          exact ⟨l1, m1, m2, m3, l2, l3⟩
        · have : edit_goneB a = false := by
            cases hb : edit_goneB a
            · rfl
            · exact absurd (List.any_eq_true.2 ⟨a, ha, hb⟩) k3
          have h4 : edit_levelB a.f0 = true := by simpa [edit_goneB] using this
          exact ⟨of_decide_eq_true h4, hg a ha⟩
end Go.Proofs.YteilnbnnhocciaaDoor.E
