/- The tied card of VersionRaw: whether any files on levels are a right version is told as the document says, for every four rows of files, behind the tables that the program's text lays. (part 5 of 5; packed by program out of the texts named below) -/
import Derived.Test.YteilnbnnhocciaaDoorXG4
import Derived.Shelf.SlicesE.Clone
import Derived.Deep.RegionLaw
import Derived.Deep.AppendLies
import Derived.ChangeArms
import Derived.DataReads
import Derived.Deep.Slices
import Derived.WideShapes
import Derived.Test.YteilnbnnhocciaaDoorRows
import Derived.Lib.LaidIn
import Derived.ChangeSame
import Derived.ChangeVars
import Derived.JoinedOf
import Derived.Carry
import Derived.RowKit
import Derived.WalkKit
import Derived.ProofKit
import Derived.OpenShut
import Derived.ShutString
import Derived.ChangeOld
import Derived.Below
import Derived.SizedLaws
import Derived.Test.YteilnbnnhocciaaDoorTie
import Derived.Test.YteilnbnnhocciaaDoorCards
import Derived.SevenTiedAt

/-! KV44 -/
namespace Go.Proofs.YteilnbnnhocciaaDoor.KV
open Go.RowKit Go.Proofs.YteilnbnnhocciaaDoorW.PrintWords Go.Proofs.YteilnbnnhocciaaDoorW.PrintLast Go.Proofs.YteilnbnnhocciaaDoorW.PrintMore Go.Proofs.YteilnbnnhocciaaDoorM
attribute [local go_sem] max2_int min2_int max_two min_two max_three min_three max_four min_four
set_option linter.unusedVariables false
set_option linter.unusedSimpArgs false
def edit_cells107 (a : S107) : List Value := [.int .i64 a.f0, .int .u64 a.f1.f0, .int .u64 a.f1.f1, .int .u64 a.f1.f2, .string a.f1.f3, .string a.f1.f4]
def edit_cells111 (a : S111) : List Value := [.int .i64 a.f0, .int .u64 a.f1]
def edit_Parse.come (s : ByteArray) (p e : Int) : Option (S107 × ByteArray × Int × Int) :=
  (edit_levelOf.f s p e).bind fun t0 => (varint_Reader_Num.f t0.2.1 t0.2.2.1 t0.2.2.2).bind fun t1 => (varint_Reader_Num.f t1.2.1 t1.2.2.1 t1.2.2.2).bind fun t2 => (varint_Reader_Num.f t2.2.1 t2.2.2.1 t2.2.2.2).bind fun t3 =>
    (varint_Reader_Text.f t3.2.1 t3.2.2.1 t3.2.2.2 200).bind fun t4 => (varint_Reader_Text.f t4.2.1 t4.2.2.1 t4.2.2.2 200).bind fun t5 => some (⟨t0.1, ⟨t1.1, t2.1, t3.1, t4.1, t5.1⟩⟩, t5.2.1, t5.2.2.1, t5.2.2.2)
def edit_Parse.gone (s : ByteArray) (p e : Int) : Option (S111 × ByteArray × Int × Int) :=
  (edit_levelOf.f s p e).bind fun t0 => (varint_Reader_Num.f t0.2.1 t0.2.2.1 t0.2.2.2).bind fun t1 => some (⟨t0.1, t1.1⟩, t1.2.1, t1.2.2.1, t1.2.2.2)
def edit_Parse.comes : Nat → ByteArray → Int → Int → List S107 → Option (List S107 × ByteArray × Int × Int)
  | 0, s, p, e, acc => some (acc, s, p, e)
  | m + 1, s, p, e, acc => if e = 0 then (edit_Parse.come s p e).bind fun t => if acc.length < 2199023255552 then edit_Parse.comes m t.2.1 t.2.2.1 t.2.2.2 (acc ++ [t.1]) else none else some (acc, s, p, e)
def edit_Parse.gones : Nat → ByteArray → Int → Int → List S111 → Option (List S111 × ByteArray × Int × Int)
  | 0, s, p, e, acc => some (acc, s, p, e)
  | m + 1, s, p, e, acc => if e = 0 then (edit_Parse.gone s p e).bind fun t => if acc.length < 8796093022208 then edit_Parse.gones m t.2.1 t.2.2.1 t.2.2.2 (acc ++ [t.1]) else none else some (acc, s, p, e)
def edit_Parse.fin (lg nx sq : Int) (c : List S107) (g : List S111) (err : Int) : Int × Int × Int × List S107 × List S111 × Int :=
  if err = 0 then (if edit_Edit_Check.val c g = 0 then (lg, nx, sq, c, g, 0) else (0, 0, 0, [], [], edit_Edit_Check.val c g)) else (0, 0, 0, [], [], err)
def edit_Parse.f (a0 : ByteArray) : Option (Int × Int × Int × (List (S107)) × (List (S111)) × Int) :=
  (varint_Reader_Num.f a0 0 0).bind fun t1 => (varint_Reader_Num.f t1.2.1 t1.2.2.1 t1.2.2.2).bind fun t2 => (varint_Reader_Num.f t2.2.1 t2.2.2.1 t2.2.2.2).bind fun t3 =>
    (edit_count.f t3.2.1 t3.2.2.1 t3.2.2.2).bind fun n => if 0 ≤ n.1 ∧ n.1 ≤ 18446744073709551615 then (edit_Parse.comes n.1.toNat n.2.1 n.2.2.1 n.2.2.2 []).bind fun c =>
      (edit_count.f c.2.1 c.2.2.1 c.2.2.2).bind fun n2 => if 0 ≤ n2.1 ∧ n2.1 ≤ 18446744073709551615 then (edit_Parse.gones n2.1.toNat n2.2.1 n2.2.2.1 n2.2.2.2 []).bind fun g =>
        (varint_Reader_End.f g.2.1 g.2.2.1 g.2.2.2).bind fun z => some (edit_Parse.fin t1.1 t2.1 t3.1 c.1 g.1 z.1) else none else none
theorem own_type {w : World} {base e size n : Nat} {v : Value} {xs : List Value} (h : w.ownsRow base e size v n xs) {k : Nat} (hk : v.ownBlock = some k) : ∃ cs, w.heap[k]? = some (.cells cs e (0, 0)) := by
  rcases h.2 with ⟨rfl, _⟩ | ⟨g, cap, cur, rfl, _, hg, _⟩
  · simp [Value.ownBlock] at hk
  · simp [Value.ownBlock] at hk
    subst hk
    exact ⟨cur, hg⟩
theorem heap_lt {w : World} {b : Nat} {o : Obj} (h : w.heap[b]? = some o) : b < w.heap.size := (Array.getElem?_eq_some_iff.1 h).1
theorem blk_ne {w : World} {a b : Nat} {cs cs' : Array Value} {t t' : TypeId} {fr fr' : Nat × Nat} (h : w.heap[a]? = some (.cells cs t fr)) (h' : w.heap[b]? = some (.cells cs' t' fr')) (hne : t ≠ t') : a ≠ b := by
  rintro rfl
  rw [h] at h'
  injection h' with h'
  injection h' with _ ht _
  exact hne ht
theorem own_kept_keep {w W : World} {g base e size n t : Nat} {v : Value} {xs : List Value} {cs : Array Value} (h : w.ownsRow base e size v n xs) (hk : KeepBut w W g none) (hg : w.heap[g]? = some (.cells cs t (0, 0))) (hne : e ≠ t) : W.ownsRow base e size v n xs := by
  refine own_move h fun k hk' => ?_
  obtain ⟨cs', hc⟩ := own_type h hk'
  exact hk.2 k (heap_lt hc) (blk_ne hc hg hne) (by simp)
theorem blk_kept_keep {w W : World} {g b t t' : Nat} {cs cs' : Array Value} (h : w.heap[b]? = some (.cells cs t (0, 0))) (hk : KeepBut w W g none) (hg : w.heap[g]? = some (.cells cs' t' (0, 0))) (hne : t ≠ t') : W.heap[b]? = some (.cells cs t (0, 0)) :=
  (hk.2 b (heap_lt h) (blk_ne h hg hne) (by simp)).trans h
def edit_zero26 : Array Value := #[.int .u64 0, .int .u64 0, .int .u64 0, .slice none 0 0, .slice none 0 0]
structure edit_Parse.St (w : World) (g b2 b5 : Nat) (s : ByteArray) (p e : Int) (C5 : Array Value) (v3 : Value) (l3 : List S107) (v4 : Value) (l4 : List S111) (W : World) : Prop where
  rd : IsS171 w W g s p e
  h2 : W.heap[b2]? = some (.cells edit_zero26 26 (0, 0))
  h5 : W.heap[b5]? = some (.cells C5 26 (0, 0))
  o3 : W.ownsRow w.heap.size 107 6 v3 l3.length (l3.flatMap edit_cells107)
  o4 : W.ownsRow w.heap.size 111 2 v4 l4.length (l4.flatMap edit_cells111)
  bel : Below w.heap.size w W
  ge2 : w.heap.size ≤ b2
  ge5 : w.heap.size ≤ b5
  ne25 : b2 ≠ b5
section
variable {w W W' : World} {g b2 b5 : Nat} {s s' : ByteArray} {p e p' e' : Int} {C5 : Array Value} {v3 v4 : Value} {l3 : List S107} {l4 : List S111}
theorem edit_Parse.St.call (h : edit_Parse.St w g b2 b5 s p e C5 v3 l3 v4 l4 W) (hi : IsS171 w W' g s' p' e') (hb : Below w.heap.size w W') (hk : KeepBut W W' g none) : edit_Parse.St w g b2 b5 s' p' e' C5 v3 l3 v4 l4 W' :=
  ⟨hi, blk_kept_keep h.h2 hk h.rd.1 (by decide), blk_kept_keep h.h5 hk h.rd.1 (by decide), own_kept_keep h.o3 hk h.rd.1 (by decide), own_kept_keep h.o4 hk h.rd.1 (by decide), hb, h.ge2, h.ge5, h.ne25⟩
theorem edit_Parse.St.alloc (h : edit_Parse.St w g b2 b5 s p e C5 v3 l3 v4 l4 W) (o : Obj) : edit_Parse.St w g b2 b5 s p e C5 v3 l3 v4 l4 (W.alloc o) :=
  ⟨h.rd.alloc o, blk_alloc h.h2 o, blk_alloc h.h5 o, h.o3.alloc o, h.o4.alloc o, below_alloc h.bel o, h.ge2, h.ge5, h.ne25⟩
theorem edit_Parse.St.drew (h : edit_Parse.St w g b2 b5 s p e C5 v3 l3 v4 l4 W) : edit_Parse.St w g b2 b5 s p e C5 v3 l3 v4 l4 W.drew :=
  ⟨h.rd.drew, h.h2, h.h5, h.o3.drew, h.o4.drew, below_drew1 h.bel, h.ge2, h.ge5, h.ne25⟩
theorem edit_Parse.St.far (h : edit_Parse.St w g b2 b5 s p e C5 v3 l3 v4 l4 W) {b i : Nat} (u : Value) (hb : w.heap.size ≤ b) (hg : g ≠ b) (h2 : b2 ≠ b) (h5 : b5 ≠ b) (h3 : v3.ownBlock ≠ some b) (h4 : v4.ownBlock ≠ some b) : edit_Parse.St w g b2 b5 s p e C5 v3 l3 v4 l4 (W.setCell ⟨b, i, none⟩ u) :=
  ⟨h.rd.far hg u, (Below.heap_setCell W _ u b2 h2).trans h.h2, (Below.heap_setCell W _ u b5 h5).trans h.h5, own_move h.o3 (fun k hk => Below.heap_setCell W _ u k (fun e => h3 (by rw [hk]; exact congrArg some e))), own_move h.o4 (fun k hk => Below.heap_setCell W _ u k (fun e => h4 (by rw [hk]; exact congrArg some e))), below_set h.bel hb, h.ge2, h.ge5, h.ne25⟩
theorem edit_Parse.St.set5 (h : edit_Parse.St w g b2 b5 s p e C5 v3 l3 v4 l4 W) (i : Nat) (u : Value) : edit_Parse.St w g b2 b5 s p e (C5.setIfInBounds i u) v3 l3 v4 l4 (W.setCell ⟨b5, i, none⟩ u) := by
  have hg : g ≠ b5 := blk_ne h.rd.1 h.h5 (by decide)
  refine ⟨h.rd.far hg u, (Below.heap_setCell W _ u b2 h.ne25).trans h.h2, ?_, own_move h.o3 (fun k hk => Below.heap_setCell W _ u k ?_), own_move h.o4 (fun k hk => Below.heap_setCell W _ u k ?_), below_set h.bel h.ge5, h.ge2, h.ge5, h.ne25⟩
  · simp [World.setCell, Array.getElem?_modify, h.h5]
  · obtain ⟨cs, hc⟩ := own_type h.o3 hk
    exact blk_ne hc h.h5 (by decide)
  · obtain ⟨cs, hc⟩ := own_type h.o4 hk
    exact blk_ne hc h.h5 (by decide)
theorem edit_Parse.St.push3 (h : edit_Parse.St w g b2 b5 s p e C5 v3 l3 v4 l4 W) {a : S107} {v' : Value} (ho : W'.ownsRow w.heap.size 107 6 v' (l3.length + 1) (l3.flatMap edit_cells107 ++ edit_cells107 a)) (hg : W.grownBy W' v3.ownBlock) : edit_Parse.St w g b2 b5 s p e C5 v' (l3 ++ [a]) v4 l4 W' := by
  have hn : ∀ {b t : Nat} {cs : Array Value}, W.heap[b]? = some (.cells cs t (0, 0)) → t ≠ 107 → some b ≠ v3.ownBlock := by
    intro b t cs hb ht e
    obtain ⟨cs', hc⟩ := own_type h.o3 e.symm
    exact blk_ne hb hc ht rfl
  have hb : ∀ {b t : Nat} {cs : Array Value}, W.heap[b]? = some (.cells cs t (0, 0)) → t ≠ 107 → W'.heap[b]? = some (.cells cs t (0, 0)) := fun hb ht => (hg.block _ (heap_lt hb) (hn hb ht)).trans hb
  refine ⟨⟨hb h.rd.1 (by decide), h.rd.2⟩, hb h.h2 (by decide), hb h.h5 (by decide), by simpa using ho, own_move h.o4 (fun k hk => ?_), h.bel.grown hg h.bel.size (fun k hk => (h.o3.lt k hk).1), h.ge2, h.ge5, h.ne25⟩
  obtain ⟨cs, hc⟩ := own_type h.o4 hk
  exact hg.block _ (heap_lt hc) (hn hc (by decide))
theorem edit_Parse.St.push4 (h : edit_Parse.St w g b2 b5 s p e C5 v3 l3 v4 l4 W) {a : S111} {v' : Value} (ho : W'.ownsRow w.heap.size 111 2 v' (l4.length + 1) (l4.flatMap edit_cells111 ++ edit_cells111 a)) (hg : W.grownBy W' v4.ownBlock) : edit_Parse.St w g b2 b5 s p e C5 v3 l3 v' (l4 ++ [a]) W' := by
  have hn : ∀ {b t : Nat} {cs : Array Value}, W.heap[b]? = some (.cells cs t (0, 0)) → t ≠ 111 → some b ≠ v4.ownBlock := by
    intro b t cs hb ht e
    obtain ⟨cs', hc⟩ := own_type h.o4 e.symm
    exact blk_ne hb hc ht rfl
  have hb : ∀ {b t : Nat} {cs : Array Value}, W.heap[b]? = some (.cells cs t (0, 0)) → t ≠ 111 → W'.heap[b]? = some (.cells cs t (0, 0)) := fun hb ht => (hg.block _ (heap_lt hb) (hn hb ht)).trans hb
  refine ⟨⟨hb h.rd.1 (by decide), h.rd.2⟩, hb h.h2 (by decide), hb h.h5 (by decide), own_move h.o3 (fun k hk => ?_), by simpa using ho, h.bel.grown hg h.bel.size (fun k hk => (h.o4.lt k hk).1), h.ge2, h.ge5, h.ne25⟩
  obtain ⟨cs, hc⟩ := own_type h.o3 hk
  exact hg.block _ (heap_lt hc) (hn hc (by decide))
end
theorem cells_new (w : World) (cs : List Value) (e : TypeId) : ∀ j u, cs[j]? = some u → (w.alloc (.cells cs.toArray e)).cell? ((⟨w.heap.size, 0, none⟩ : Addr).add j) = some u := by
  intro j u hj
  have : (⟨w.heap.size, 0, none⟩ : Addr).add j = ⟨w.heap.size, j, none⟩ := by unfold Addr.add; split <;> simp_all
  rw [this, World.cell?_alloc_at _ _ _ _ rfl]
  simpa using hj
theorem R_of_own {α : Type} {d : Kd α} {e base : Nat} {w : World} {v : Value} {l : List α} (f : α → List Value) (hf : ∀ x, (f x).length = d.sz) (hM : ∀ ok x, d.M w base ok x (f x)) (h : w.ownsRow base e d.sz v l.length (l.flatMap f)) : Kd.R d e w base (fun _ => True) v l := by
  refine ⟨fun _ _ => trivial, _, h, ?_⟩
  clear h
  have : ∀ (ok : Nat → Prop), Reps (d.M w base ok) d.sz l (l.flatMap f) := by
    intro ok
    generalize hm : l.length = m
    induction m generalizing l with
    | zero => obtain rfl := List.eq_nil_of_length_eq_zero hm; exact Reps.none _ _
    | succ m ih =>
      obtain ⟨l', x, rfl⟩ : ∃ l' x, l = l' ++ [x] := by
        refine ⟨l.dropLast, l.getLast (by intro h; simp [h] at hm), ?_⟩
        exact (List.dropLast_concat_getLast _).symm
      have hl : l'.length = m := by simpa using hm
      simpa using Reps.snoc (ih hl) (hM ok x) (hf x)
  exact this _
theorem edit_Parse.comes_stop {m : Nat} {s : ByteArray} {p e : Int} {l : List S107} {C : List S107 × ByteArray × Int × Int} (h : edit_Parse.comes m s p e l = some C) (hz : m = 0 ∨ e ≠ 0) : (l, s, p, e) = C := by
  cases m with
  | zero => exact Option.some.inj h
  | succ m =>
    rcases hz with hz | hz
    · cases hz
    · rw [edit_Parse.comes, if_neg hz] at h; exact Option.some.inj h
theorem edit_Parse.gones_stop {m : Nat} {s : ByteArray} {p e : Int} {l : List S111} {C : List S111 × ByteArray × Int × Int} (h : edit_Parse.gones m s p e l = some C) (hz : m = 0 ∨ e ≠ 0) : (l, s, p, e) = C := by
  cases m with
  | zero => exact Option.some.inj h
  | succ m =>
    rcases hz with hz | hz
    · cases hz
    · rw [edit_Parse.gones, if_neg hz] at h; exact Option.some.inj h
structure edit_Parse.Come (s : ByteArray) (p : Int) (a : S107) (s1 s2 s3 s4 s5 s6 : ByteArray) (p1 p2 p3 p4 p5 p6 e1 e2 e3 e4 e5 e6 : Int) : Prop where
  c1 : edit_levelOf.f s p 0 = some (a.f0, s1, p1, e1)
  c2 : varint_Reader_Num.f s1 p1 e1 = some (a.f1.f0, s2, p2, e2)
  c3 : varint_Reader_Num.f s2 p2 e2 = some (a.f1.f1, s3, p3, e3)
  c4 : varint_Reader_Num.f s3 p3 e3 = some (a.f1.f2, s4, p4, e4)
  c5 : varint_Reader_Text.f s4 p4 e4 200 = some (a.f1.f3, s5, p5, e5)
  c6 : varint_Reader_Text.f s5 p5 e5 200 = some (a.f1.f4, s6, p6, e6)
theorem edit_Parse.comes_go {m : Nat} {s : ByteArray} {p : Int} {l : List S107} {C : List S107 × ByteArray × Int × Int} (h : edit_Parse.comes (m + 1) s p 0 l = some C) :
    l.length < 2199023255552 ∧ ∃ a s1 s2 s3 s4 s5 s6 p1 p2 p3 p4 p5 p6 e1 e2 e3 e4 e5 e6, edit_Parse.Come s p a s1 s2 s3 s4 s5 s6 p1 p2 p3 p4 p5 p6 e1 e2 e3 e4 e5 e6 ∧ edit_Parse.comes m s6 p6 e6 (l ++ [a]) = some C := by
  rw [edit_Parse.comes, if_pos rfl] at h
  obtain ⟨⟨a, s6, p6, e6⟩, hc, h⟩ := Option.bind_eq_some_iff.mp h
  dsimp only at h
  by_cases hl : l.length < 2199023255552
  · rw [if_pos hl] at h
    refine ⟨hl, ?_⟩
    obtain ⟨⟨a0, s1, p1, e1⟩, h1, hc⟩ := Option.bind_eq_some_iff.mp hc
    obtain ⟨⟨a1, s2, p2, e2⟩, h2, hc⟩ := Option.bind_eq_some_iff.mp hc
    obtain ⟨⟨a2, s3, p3, e3⟩, h3, hc⟩ := Option.bind_eq_some_iff.mp hc
    obtain ⟨⟨a3, s4, p4, e4⟩, h4, hc⟩ := Option.bind_eq_some_iff.mp hc
    obtain ⟨⟨a4, s5, p5, e5⟩, h5, hc⟩ := Option.bind_eq_some_iff.mp hc
    obtain ⟨⟨a5, s7, p7, e7⟩, h6, hc⟩ := Option.bind_eq_some_iff.mp hc
    dsimp only at h1 h2 h3 h4 h5 h6 hc
    simp only [Option.some.injEq, Prod.mk.injEq] at hc
    obtain ⟨rfl, rfl, rfl, rfl⟩ := hc
    exact ⟨_, _, _, _, _, _, _, _, _, _, _, _, _, _, _, _, _, _, _, ⟨h1, h2, h3, h4, h5, h6⟩, h⟩
  · rw [if_neg hl] at h; cases h
theorem edit_Parse.gones_go {m : Nat} {s : ByteArray} {p : Int} {l : List S111} {C : List S111 × ByteArray × Int × Int} (h : edit_Parse.gones (m + 1) s p 0 l = some C) :
    l.length < 8796093022208 ∧ ∃ a s1 s2 p1 p2 e1 e2, (edit_levelOf.f s p 0 = some (a.f0, s1, p1, e1) ∧ varint_Reader_Num.f s1 p1 e1 = some (a.f1, s2, p2, e2)) ∧ edit_Parse.gones m s2 p2 e2 (l ++ [a]) = some C := by
  rw [edit_Parse.gones, if_pos rfl] at h
  obtain ⟨⟨a, s6, p6, e6⟩, hc, h⟩ := Option.bind_eq_some_iff.mp h
  dsimp only at h
  by_cases hl : l.length < 8796093022208
  · rw [if_pos hl] at h
    refine ⟨hl, ?_⟩
    obtain ⟨⟨a0, s1, p1, e1⟩, h1, hc⟩ := Option.bind_eq_some_iff.mp hc
    obtain ⟨⟨a1, s2, p2, e2⟩, h2, hc⟩ := Option.bind_eq_some_iff.mp hc
    dsimp only at h1 h2 hc
    simp only [Option.some.injEq, Prod.mk.injEq] at hc
    obtain ⟨rfl, rfl, rfl, rfl⟩ := hc
    exact ⟨_, _, _, _, _, _, _, ⟨h1, h2⟩, h⟩
  · rw [if_neg hl] at h; cases h
theorem own_set2 {w : World} {base e size n t b i : Nat} {v : Value} {xs : List Value} (u : Value) (h : w.ownsRow base e size v n xs) (hb : ∃ cs, w.heap[b]? = some (.cells cs t (0, 0))) (hne : e ≠ t) : (w.setCell ⟨b, i, none⟩ u).ownsRow base e size v n xs ∧ ∃ cs, (w.setCell ⟨b, i, none⟩ u).heap[b]? = some (.cells cs t (0, 0)) := by
  obtain ⟨cs, hb⟩ := hb
  refine ⟨own_move h (fun k hk => ?_), cs.setIfInBounds i u, ?_⟩
  · obtain ⟨cs', hc⟩ := own_type h hk
    exact Below.heap_setCell w _ u k (blk_ne hc hb hne)
  · simp [World.setCell, Array.getElem?_modify, hb]
theorem own_set5 {w : World} {base e size n t b : Nat} {v : Value} {xs : List Value} (u0 u1 u2 u3 u4 : Value) (h : w.ownsRow base e size v n xs) (hb : ∃ cs, w.heap[b]? = some (.cells cs t (0, 0))) (hne : e ≠ t) : (((((w.setCell ⟨b, 0, none⟩ u0).setCell ⟨b, 1, none⟩ u1).setCell ⟨b, 2, none⟩ u2).setCell ⟨b, 3, none⟩ u3).setCell ⟨b, 4, none⟩ u4).ownsRow base e size v n xs := by
  obtain ⟨h, hb⟩ := own_set2 (i := 0) u0 h hb hne
  obtain ⟨h, hb⟩ := own_set2 (i := 1) u1 h hb hne
  obtain ⟨h, hb⟩ := own_set2 (i := 2) u2 h hb hne
  obtain ⟨h, hb⟩ := own_set2 (i := 3) u3 h hb hne
  exact (own_set2 (i := 4) u4 h hb hne).1
theorem below_set5 {B b : Nat} {w0 w : World} (u0 u1 u2 u3 u4 : Value) (h : Below B w0 w) (hb : B ≤ b) : Below B w0 (((((w.setCell ⟨b, 0, none⟩ u0).setCell ⟨b, 1, none⟩ u1).setCell ⟨b, 2, none⟩ u2).setCell ⟨b, 3, none⟩ u3).setCell ⟨b, 4, none⟩ u4) :=
  ((((h.setCell (p := ⟨b, 0, none⟩) hb u0).setCell (p := ⟨b, 1, none⟩) hb u1).setCell (p := ⟨b, 2, none⟩) hb u2).setCell (p := ⟨b, 3, none⟩) hb u3).setCell (p := ⟨b, 4, none⟩) hb u4
def edit_Parse.Post (w : World) (R : Int × Int × Int × List S107 × List S111 × Int) (e : Ending) (w' : World) : Prop :=
  ∃ v3_ v4_ : Value, e = .returned (.tuple #[.agg #[.int .u64 R.1, .int .u64 R.2.1, .int .u64 R.2.2.1, v3_, v4_], .int .i64 R.2.2.2.2.2]) ∧ Kd.R k107 107 w' w.heap.size (fun _ => True) v3_ R.2.2.2.1 ∧ Kd.R k111 111 w' w.heap.size (fun _ => True) v4_ R.2.2.2.2.1 ∧ Below w.heap.size w w'
theorem edit_Parse.info107 : (Tryd.prog.info? 107).map (fun i => (i.zero, i.size, i.bytes)) = some (some (.agg #[(.int .i64 0), (.int .u64 0), (.int .u64 0), (.int .u64 0), (.string ⟨#[]⟩), (.string ⟨#[]⟩)]), 6, 64) := by kernel_rfl
theorem edit_Parse.info111 : (Tryd.prog.info? 111).map (fun i => (i.zero, i.size, i.bytes)) = some (some (.agg #[(.int .i64 0), (.int .u64 0)]), 2, 16) := by kernel_rfl
def edit_Parse.J1 (w : World) (g b2 b5 : Nat) (lg nx sq n : Int) (C : List S107 × ByteArray × Int × Int) (i : Int) (W : World) : Prop :=
  ∃ (m : Nat) (s : ByteArray) (p e : Int) (v3 : Value) (l3 : List S107), 0 ≤ i ∧ i + m = n ∧ edit_Parse.St w g b2 b5 s p e #[.int .u64 lg, .int .u64 nx, .int .u64 sq, v3, .slice none 0 0] v3 l3 (.slice none 0 0) [] W ∧ edit_Parse.comes m s p e l3 = some C
def edit_Parse.J2 (w : World) (g b2 b5 : Nat) (lg nx sq n : Int) (l3 : List S107) (v3 : Value) (C : List S111 × ByteArray × Int × Int) (i : Int) (W : World) : Prop :=
  ∃ (m : Nat) (s : ByteArray) (p e : Int) (v4 : Value) (l4 : List S111), 0 ≤ i ∧ i + m = n ∧ edit_Parse.St w g b2 b5 s p e #[.int .u64 lg, .int .u64 nx, .int .u64 sq, v3, v4] v3 l3 v4 l4 W ∧ edit_Parse.gones m s p e l4 = some C
structure edit_Parse.Parts (a0 : ByteArray) (R : Int × Int × Int × List S107 × List S111 × Int) (n1 n2 n3 n4 n6 z : Int) (s1 s2 s3 s4 s5 s6 s7 s8 : ByteArray) (p1 p2 p3 p4 p5 p6 p7 p8 e1 e2 e3 e4 e5 e6 e7 e8 : Int) (l3 : List S107) (l4 : List S111) : Prop where
  a1 : varint_Reader_Num.f a0 0 0 = some (n1, s1, p1, e1)
  a2 : varint_Reader_Num.f s1 p1 e1 = some (n2, s2, p2, e2)
  a3 : varint_Reader_Num.f s2 p2 e2 = some (n3, s3, p3, e3)
  a4 : edit_count.f s3 p3 e3 = some (n4, s4, p4, e4)
  a5 : edit_Parse.comes n4.toNat s4 p4 e4 [] = some (l3, s5, p5, e5)
  a6 : edit_count.f s5 p5 e5 = some (n6, s6, p6, e6)
  a7 : edit_Parse.gones n6.toNat s6 p6 e6 [] = some (l4, s7, p7, e7)
  a8 : varint_Reader_End.f s7 p7 e7 = some (z, s8, p8, e8)
  hr : edit_Parse.fin n1 n2 n3 l3 l4 z = R
  h4 : 0 ≤ n4 ∧ n4 ≤ 18446744073709551615
  h6 : 0 ≤ n6 ∧ n6 ≤ 18446744073709551615
theorem edit_Parse.parts {a0 : ByteArray} {R : Int × Int × Int × List S107 × List S111 × Int} (h : edit_Parse.f a0 = some R) : ∃ n1 n2 n3 n4 n6 z s1 s2 s3 s4 s5 s6 s7 s8 p1 p2 p3 p4 p5 p6 p7 p8 e1 e2 e3 e4 e5 e6 e7 e8 l3 l4, edit_Parse.Parts a0 R n1 n2 n3 n4 n6 z s1 s2 s3 s4 s5 s6 s7 s8 p1 p2 p3 p4 p5 p6 p7 p8 e1 e2 e3 e4 e5 e6 e7 e8 l3 l4 := by
  obtain ⟨⟨n1, s1, p1, e1⟩, A1, h⟩ := Option.bind_eq_some_iff.mp h
  obtain ⟨⟨n2, s2, p2, e2⟩, A2, h⟩ := Option.bind_eq_some_iff.mp h
  obtain ⟨⟨n3, s3, p3, e3⟩, A3, h⟩ := Option.bind_eq_some_iff.mp h
  obtain ⟨⟨n4, s4, p4, e4⟩, A4, h⟩ := Option.bind_eq_some_iff.mp h
  dsimp only at A1 A2 A3 A4 h
  by_cases hn4 : 0 ≤ n4 ∧ n4 ≤ 18446744073709551615
  · rw [if_pos hn4] at h
    obtain ⟨⟨l3, s5, p5, e5⟩, A5, h⟩ := Option.bind_eq_some_iff.mp h
    obtain ⟨⟨n6, s6, p6, e6⟩, A6, h⟩ := Option.bind_eq_some_iff.mp h
    dsimp only at A5 A6 h
    by_cases hn6 : 0 ≤ n6 ∧ n6 ≤ 18446744073709551615
    · rw [if_pos hn6] at h
      obtain ⟨⟨l4, s7, p7, e7⟩, A7, h⟩ := Option.bind_eq_some_iff.mp h
      obtain ⟨⟨z, s8, p8, e8⟩, A8, h⟩ := Option.bind_eq_some_iff.mp h
      dsimp only at A7 A8 h
      exact ⟨_, _, _, _, _, _, _, _, _, _, _, _, _, _, _, _, _, _, _, _, _, _, _, _, _, _, _, _, _, _, _, _, A1, A2, A3, A4, A5, A6, A7, A8, Option.some.inj h, hn4, hn6⟩
    · rw [if_neg hn6] at h; cases h
  · rw [if_neg hn4] at h; cases h
set_option maxHeartbeats 1000000 in
set_option maxRecDepth 100000 in
theorem edit_Parse.walk (a0 : ByteArray) (R : Int × Int × Int × List S107 × List S111 × Int) (w : World) (h : edit_Parse.f a0 = some R) : Calls Tryd.prog 18 #[.string a0] w (edit_Parse.Post w R) := by
  obtain ⟨n1, n2, n3, n4, n6, z, s1, s2, s3, s4, s5, s6, s7, s8, p1, p2, p3, p4, p5, p6, p7, p8, e1, e2, e3, e4, e5, e6, e7, e8, l3, l4, A⟩ := edit_Parse.parts h
  clear h
  obtain ⟨hn4, hu4⟩ := A.h4
  obtain ⟨hn6, hu6⟩ := A.h6
  go_enter Tryd.func18, Tryd.ntmps18
  go_wp2_with fail
  refine (varint_Over.calls a0 a0 0 0 w _ ((Below.refl _ w).alloc (Nat.le_refl _) _) rfl).mono ?_
  rintro e W1 ⟨g, rfl, hi1', hb1, hb1'⟩
  have h21 : W1.heap[w.heap.size]? = some (.cells edit_zero26 26 (0, 0)) := (hb1'.block _ (by simp)).trans (heap_alloc_new w _)
  go_wp2_with fail
  refine (varint_Reader_Num.calls g _ _ _ _ _ _ _ w _ hi1' hb1 A.a1).mono ?_
  rintro e W2 ⟨rfl, hi2, hb2, hk2⟩
  have h22 := blk_kept_keep h21 hk2 hi1'.1 (by decide)
  go_wp2_with fail
  refine (varint_Reader_Num.calls g _ _ _ _ _ _ _ w _ hi2 hb2 A.a2).mono ?_
  rintro e W3 ⟨rfl, hi3, hb3, hk3⟩
  have h23 := blk_kept_keep h22 hk3 hi2.1 (by decide)
  go_wp2_with fail
  refine (varint_Reader_Num.calls g _ _ _ _ _ _ _ w _ hi3 hb3 A.a3).mono ?_
  rintro e W4 ⟨rfl, hi4, hb4, hk4⟩
  have h24 := blk_kept_keep h23 hk4 hi3.1 (by decide)
  go_wp2_with fail
  refine (edit_count.calls g _ _ _ _ _ _ _ w _ (hi4.alloc _) (below_alloc hb4 _) A.a4).mono ?_
  rintro e W5 ⟨rfl, hi5, hb5, hk5⟩
  have S0 : edit_Parse.St w g w.heap.size W4.heap.size s3 p3 e3 #[.int .u64 n1, .int .u64 n2, .int .u64 n3, .slice none 0 0, .slice none 0 0] (.slice none 0 0) [] (.slice none 0 0) [] (W4.alloc (.cells #[.int .u64 n1, .int .u64 n2, .int .u64 n3, .slice none 0 0, .slice none 0 0] 26)) :=
    ⟨hi4.alloc _, blk_alloc h24 _, heap_alloc_new _ _, World.ownsRow_nil _ _ _ _, World.ownsRow_nil _ _ _ _, below_alloc hb4 _, Nat.le_refl _, hb4.size, fun h => by have := heap_lt h24; omega⟩
  have S5 := S0.call hi5 hb5 hk5
  obtain ⟨b5, hb5e⟩ : ∃ b, b = W4.heap.size := ⟨_, rfl⟩
  rw [← hb5e] at S5 ⊢
  have X5 := Hush.mk hb5e
  clear S0 h24 h23 h22 h21 hi1' hi2 hi3 hi4 hi5 hb1 hb1' hb2 hb3 hb4 hb5 hk2 hk3 hk4 hk5 hb5e
  go_wp2_with fail
  go_loopw [7] (fun i wr => ∃ iv : Int, i = .int .u64 iv ∧ edit_Parse.J1 w g w.heap.size b5 n1 n2 n3 n4 (l3, s5, p5, e5) iv wr) (fun i _ => (n4 - intOf i).toNat)
  case atStart => exact ⟨0, rfl, n4.toNat, s4, p4, e4, _, _, by omega, by omega, S5, A.a5⟩
  case round =>
    obtain ⟨iv, rfl, m, s, p, e, v3, l, hi0, him, hS, hc⟩ := hrel
    clear S5
    have HC := Hush.mk hc
    clear hc
    by_cases hgo : iv < n4 ∧ e = 0
    · obtain ⟨hlt, he⟩ := hgo
      obtain ⟨m, rfl⟩ : ∃ m', m = m' + 1 := ⟨m - 1, by omega⟩
      obtain ⟨hll, a, t1, t2, t3, t4, t5, t6, q1, q2, q3, q4, q5, q6, f1, f2, f3, f4, f5, f6, HCm, hcs⟩ := edit_Parse.comes_go (he ▸ HC.out)
      have HN := Hush.mk hcs
      subst he
      clear HC hcs
      go_wp2_with fail
      refine (varint_Reader_Err.calls g s p 0 0 s p 0 w wr hS.rd hS.bel rfl).mono ?_
      rintro e W6 ⟨rfl, hi6, hb6, hk6⟩
      have S6 := hS.call hi6 hb6 hk6
      clear hS hi6 hb6 hk6
      go_wp2_with fail
      refine (edit_levelOf.calls g _ _ _ _ _ _ _ w _ S6.rd S6.bel HCm.c1).mono ?_
      rintro e W7 ⟨rfl, hi7, hb7, hk7⟩
      have S7 := S6.call hi7 hb7 hk7
      clear S6 hi7 hb7 hk7
      have hv3 : v3.ownBlock ≠ some W7.heap.size := fun h => by have := (S7.o3.lt _ h).2; omega
      have ha8 := heap_alloc_new W7 (.cells #[.int .i64 a.f0, .int .u64 0, .int .u64 0, .int .u64 0, .string ⟨#[]⟩, .string ⟨#[]⟩] 107)
      have S8 := S7.alloc (.cells #[.int .i64 a.f0, .int .u64 0, .int .u64 0, .int .u64 0, .string ⟨#[]⟩, .string ⟨#[]⟩] 107)
      have hga : w.heap.size ≤ W7.heap.size := S7.bel.size
      clear S7
      go_wp2_with fail
      obtain ⟨W8, hW8⟩ : ∃ W, W = W7.alloc (.cells #[.int .i64 a.f0, .int .u64 0, .int .u64 0, .int .u64 0, .string ⟨#[]⟩, .string ⟨#[]⟩] 107) := ⟨_, rfl⟩
      rw [← hW8] at S8 ha8 ⊢
      obtain ⟨ba, hba⟩ : ∃ b, b = W7.heap.size := ⟨_, rfl⟩
      rw [← hba] at ha8 hv3 hga ⊢
      clear hba hW8
      refine (varint_Reader_Num.calls g _ _ _ _ _ _ _ w _ S8.rd S8.bel HCm.c2).mono ?_
      rintro e W9 ⟨rfl, hi, hb, hk⟩
      have S9 := S8.call hi hb hk
      have ha9 := blk_kept_keep ha8 hk S8.rd.1 (by decide)
      clear S8 ha8 hi hb hk
      go_wp2_with fail
      refine (varint_Reader_Num.calls g _ _ _ _ _ _ _ w _ S9.rd S9.bel HCm.c3).mono ?_
      rintro e W10 ⟨rfl, hi, hb, hk⟩
      have S10 := S9.call hi hb hk
      have ha10 := blk_kept_keep ha9 hk S9.rd.1 (by decide)
      clear S9 ha9 hi hb hk
      go_wp2_with fail
      refine (varint_Reader_Num.calls g _ _ _ _ _ _ _ w _ S10.rd S10.bel HCm.c4).mono ?_
      rintro e W11 ⟨rfl, hi, hb, hk⟩
      have S11 := S10.call hi hb hk
      have ha11 := blk_kept_keep ha10 hk S10.rd.1 (by decide)
      clear S10 ha10 hi hb hk
      go_wp2_with fail
      refine (varint_Reader_Text.calls g _ _ _ 200 _ _ _ _ w _ S11.rd S11.bel HCm.c5).mono ?_
      rintro e W12 ⟨rfl, hi, hb, hk⟩
      have S12 := S11.call hi hb hk
      have ha12 := blk_kept_keep ha11 hk S11.rd.1 (by decide)
      clear S11 ha11 hi hb hk
      go_wp2_with fail
      refine (varint_Reader_Text.calls g _ _ _ 200 _ _ _ _ w _ S12.rd S12.bel HCm.c6).mono ?_
      rintro e W13 ⟨rfl, hi, hb, hk⟩
      have S13 := S12.call hi hb hk
      have ha13 := blk_kept_keep ha12 hk S12.rd.1 (by decide)
      clear S12 ha12 hi hb hk
      have n5a : b5 ≠ ba := blk_ne S13.h5 ha13 (by decide)
      have na5 : ba ≠ b5 := fun h => n5a h.symm
      have n2a : w.heap.size ≠ ba := blk_ne S13.h2 ha13 (by decide)
      have nga : g ≠ ba := blk_ne S13.rd.1 ha13 (by decide)
      have k0 := (blk_cell ha13 0).trans rfl
      have k1 := (blk_cell ha13 1).trans rfl
      have k2 := (blk_cell ha13 2).trans rfl
      have k3 := (blk_cell ha13 3).trans rfl
      have k4 := (blk_cell ha13 4).trans rfl
      have k5 := (blk_cell ha13 5).trans rfl
      have z1 := blk_frozen ha13 1
      have z2 := blk_frozen ha13 2
      have z3 := blk_frozen ha13 3
      have z4 := blk_frozen ha13 4
      have z5 := blk_frozen ha13 5
      have y3 := (blk_cell S13.h5 3).trans rfl
      obtain ⟨WX, hWX⟩ : ∃ W, W = ((((W13.setCell ⟨ba, 1, none⟩ (.int .u64 a.f1.f0)).setCell ⟨ba, 2, none⟩ (.int .u64 a.f1.f1)).setCell ⟨ba, 3, none⟩ (.int .u64 a.f1.f2)).setCell ⟨ba, 4, none⟩ (.string a.f1.f3)).setCell ⟨ba, 5, none⟩ (.string a.f1.f4) := ⟨_, rfl⟩
      have SX : edit_Parse.St w g w.heap.size b5 t6 q6 f6 #[.int .u64 n1, .int .u64 n2, .int .u64 n3, v3, .slice none 0 0] v3 l (.slice none 0 0) [] WX := by
        rw [hWX]
        exact ((((S13.far (b := ba) (i := 1) (.int .u64 a.f1.f0) hga nga n2a n5a hv3 (by simp [Value.ownBlock])).far (b := ba) (i := 2) (.int .u64 a.f1.f1) hga nga n2a n5a hv3 (by simp [Value.ownBlock])).far (b := ba) (i := 3) (.int .u64 a.f1.f2) hga nga n2a n5a hv3 (by simp [Value.ownBlock])).far (b := ba) (i := 4) (.string a.f1.f3) hga nga n2a n5a hv3 (by simp [Value.ownBlock])).far (b := ba) (i := 5) (.string a.f1.f4) hga nga n2a n5a hv3 (by simp [Value.ownBlock])
      have LX := Hush.mk hll
      have HX := Hush.mk hWX
      have SY := SX.alloc (.cells #[.int .i64 a.f0, .int .u64 a.f1.f0, .int .u64 a.f1.f1, .int .u64 a.f1.f2, .string a.f1.f3, .string a.f1.f4] 107)
      have NY : ∀ j u, (edit_cells107 a)[j]? = some u → (WX.alloc (.cells #[.int .i64 a.f0, .int .u64 a.f1.f0, .int .u64 a.f1.f1, .int .u64 a.f1.f2, .string a.f1.f3, .string a.f1.f4] 107)).cell? ((⟨WX.heap.size, 0, none⟩ : Addr).add j) = some u := cells_new WX (edit_cells107 a) 107
      have SZ := Hush.mk SY.bel.size
      have SY := Hush.mk SY
      have NY := Hush.mk NY
      clear hv3 hWX SX hll
      rename_i SY0 NY0
      clear SY0 NY0 ha13 S13
      obtain ⟨I7, HI7, HZ0, HZ1, HZ2⟩ := info_parts edit_Parse.info107
      go_wp2_with (at_builtin; rw [← HX.out]; refine wpList_append_own _ rfl _ _ 23 rfl w.heap.size 107 I7 _ 6 64 Tryd.underlying23 HI7 HZ0 HZ1 HZ2 rfl (by decide) v3 l.length (l.flatMap edit_cells107) rfl SY.out.o3 ⟨WX.heap.size, 0, none⟩ 1 1 (edit_cells107 a) ?ca rfl NY.out ?c2 ?c3 ?c4 ?c5 ?_)
      case ca =>
        have hsz : WX.heap.size = W13.heap.size := by rw [HX.out]; simp [World.setCell]
        rw [hsz]
        rfl
      case c2 => intro u hu; simp [edit_cells107] at hu; rcases hu with rfl | rfl | rfl | rfl | rfl | rfl <;> rfl
      case c3 => have := LX.out; unfold maxLen; omega
      case c4 => have := LX.out; omega
      case c5 => exact SZ.out
      intro v' w1 hown1 hgrow _
      have SP := SY.out.push3 hown1 hgrow
      obtain ⟨A', cap', rfl⟩ : ∃ A' c', v' = .slice A' (l.length + 1) c' := by
        rcases hown1.2 with ⟨rfl, h0⟩ | ⟨g', cap, cur, rfl, _⟩
        · simp [edit_cells107] at h0
        · exact ⟨_, _, rfl⟩
      have y4 := (blk_cell SP.h5 3).trans rfl
      have x4 := blk_frozen SP.h5 3
      have SQ := Hush.mk (SP.set5 3 (.slice A' (l.length + 1) cap'))
      clear SP hown1 hgrow n5a na5 k0 k1 k2 k3 k4 k5 z1 z2 z3 z4 z5 y3
      go_wp2
      go_roundw
      case rel => exact ⟨iv + 1, by go_num, m, t6, q6, f6, _, l ++ [a], by omega, by omega, SQ.out, HN.out⟩
      case measure => simp [intOf]; omega
    · have hst := edit_Parse.comes_stop HC.out (by omega)
      simp only [Prod.mk.injEq] at hst
      obtain ⟨rfl, rfl, rfl, rfl⟩ := hst
      clear HC
      by_cases hlt : iv < n4
      · have he : (e == 0) = false := by simpa using (fun h => hgo ⟨hlt, h⟩ : ¬ e = 0)
        clear hgo
        go_wp2_with fail
        refine (varint_Reader_Err.calls g s p e e s p e w wr hS.rd hS.bel rfl).mono ?_
        rintro e_ W6 ⟨rfl, hi6, hb6, hk6⟩
        have S6 := hS.call hi6 hb6 hk6
        clear hS hi6 hb6 hk6
        go_wp2_with fail
        refine (edit_count.calls g _ _ _ _ _ _ _ w _ S6.rd S6.bel A.a6).mono ?_
        rintro e_ W20 ⟨rfl, hi20, hb20, hk20⟩
        have T0 := S6.call hi20 hb20 hk20
        clear S6 hi20 hb20 hk20
        go_wp2_with fail
        go_loopw [9] (fun i wr => ∃ iv : Int, i = .int .u64 iv ∧ edit_Parse.J2 w g w.heap.size b5 n1 n2 n3 n6 l v3 (l4, s7, p7, e7) iv wr) (fun i _ => (n6 - intOf i).toNat)
        case atStart => exact ⟨0, rfl, n6.toNat, s6, p6, e6, _, _, by omega, by omega, T0, A.a7⟩
        case round =>
          clear T0
          obtain ⟨iv, rfl, m, s, p, e, v4, lg, hi0, him, hT, hc⟩ := hrel
          have HC := Hush.mk hc
          clear hc
          by_cases hgo : iv < n6 ∧ e = 0
          · obtain ⟨hlt2, he⟩ := hgo
            obtain ⟨m, rfl⟩ : ∃ m', m = m' + 1 := ⟨m - 1, by omega⟩
            obtain ⟨hll, a, t1, t2, q1, q2, f1, f2, HCm, hcs⟩ := edit_Parse.gones_go (he ▸ HC.out)
            have HN := Hush.mk hcs
            have LX := Hush.mk hll
            subst he
            clear HC hcs hll
            go_wp2_with fail
            refine (varint_Reader_Err.calls g s p 0 0 s p 0 w wr hT.rd hT.bel rfl).mono ?_
            rintro e_ W21 ⟨rfl, hi, hb, hk⟩
            have T1 := hT.call hi hb hk
            have y1 : W21.cell? ⟨b5, 4, none⟩ = some v4 := blk_cell T1.h5 4
            clear hT hi hb hk
            go_wp2_with fail
            obtain ⟨hc1, hc2⟩ := HCm
            have T1 := T1.drew
            have HC1 := Hush.mk hc1
            have HC2 := Hush.mk hc2
            clear hc1 hc2
            obtain ⟨I7, HI7, HZ0, HZ1, HZ2⟩ := info_parts edit_Parse.info111
            go_region_law (first | (refine step_append_lies _ rfl _ _ 24 rfl w.heap.size 111 I7 _ 2 16 Tryd.underlying24 HI7 HZ0 HZ1 HZ2 rfl (by decide) v4 lg.length (lg.flatMap edit_cells111) rfl (T3.alloc (.cells #[.int .i64 a.f0, .int .u64 a.f1] 111)).o4 ⟨W23.heap.size, 0, none⟩ 1 1 (edit_cells111 a) rfl rfl (cells_new W23 (edit_cells111 a) 111) (by intro u hu; simp [edit_cells111] at hu; rcases hu with rfl | rfl <;> rfl) (by decide) (by have := LX.out; unfold maxLen; omega) (by have := LX.out; omega) (T3.alloc (.cells #[.int .i64 a.f0, .int .u64 a.f1] 111)).bel.size _ rfl ?_; intro g' cap' w1 hown1 hgrow _ _; have TP := (T3.alloc (.cells #[.int .i64 a.f0, .int .u64 a.f1] 111)).push4 hown1 hgrow; have y4 := (blk_cell TP.h5 4).trans rfl; have x4 := blk_frozen TP.h5 4; have TQ := Hush.mk (TP.set5 4 (.slice (some ⟨g', 0, none⟩) (lg.length + 1) cap')); clear TP hown1 hgrow) | (go_simp; go_at_call 59; refine (edit_levelOf.calls g s p 0 a.f0 t1 q1 f1 w _ T1.rd T1.bel HC1.out).mono ?_; rintro e_ W22 ⟨rfl, hi, hb, hk⟩; have T2 : edit_Parse.St w g w.heap.size b5 t1 q1 f1 _ v3 l v4 lg W22 := T1.call hi hb hk; have y2 : W22.cell? ⟨b5, 4, none⟩ = some v4 := blk_cell T2.h5 4; clear hi hb hk) | (go_simp; go_at_call 56; refine (varint_Reader_Num.calls g t1 q1 f1 a.f1 t2 q2 f2 w _ T2.rd T2.bel HC2.out).mono ?_; rintro e_ W23 ⟨rfl, hi, hb, hk⟩; have T3 : edit_Parse.St w g w.heap.size b5 t2 q2 f2 _ v3 l v4 lg W23 := T2.call hi hb hk; have y3 : W23.cell? ⟨b5, 4, none⟩ = some v4 := blk_cell T3.h5 4; have y3a : (W23.alloc (.cells #[.int .i64 a.f0, .int .u64 a.f1] 111)).cell? ⟨b5, 4, none⟩ = some v4 := blk_cell (T3.alloc (.cells #[.int .i64 a.f0, .int .u64 a.f1] 111)).h5 4; clear hi hb hk))
            all_goals
              go_wp2
              go_roundw
              case rel => exact ⟨iv + 1, by go_num, m, t2, q2, f2, _, lg ++ [a], by omega, by omega, TQ.out, HN.out⟩
              case measure => simp [intOf]; omega
          · have hst := edit_Parse.gones_stop HC.out (by omega)
            simp only [Prod.mk.injEq] at hst
            obtain ⟨rfl, rfl, rfl, rfl⟩ := hst
            clear HC
            by_cases hlt2 : iv < n6
            · have he : (e == 0) = false := by simpa using (fun h => hgo ⟨hlt2, h⟩ : ¬ e = 0)
              clear hgo
              go_wp2_with fail
              refine (varint_Reader_Err.calls g s p e e s p e w wr hT.rd hT.bel rfl).mono ?_
              rintro e_ W21 ⟨rfl, hi, hb, hk⟩
              have T1 := hT.call hi hb hk
              clear hT hi hb hk
              go_wp2_with fail
              refine (varint_Reader_End.calls g _ _ _ _ _ _ _ w _ T1.rd T1.bel A.a8).mono ?_
              rintro e_ W30 ⟨rfl, hi, hb, hk⟩
              have U := T1.call hi hb hk
              have HA := Hush.mk A.hr
              clear T1 hi hb hk
              have R3 := R_of_own (d := k107) edit_cells107 (fun _ => rfl) (fun ok x => k107_mkM _ _ ok x) U.o3
              have R4 := R_of_own (d := k111) edit_cells111 (fun _ => rfl) (fun ok x => k111_mkM _ _ ok x) U.o4
              obtain ⟨A3, c3, rfl, _, hC3⟩ := Kd.R_reads R3
              obtain ⟨A4, c4, rfl, _, hC4⟩ := Kd.R_reads R4
              have C3 := Hush.mk hC3
              have C4 := Hush.mk hC4
              have R3 := Hush.mk R3
              have R4 := Hush.mk R4
              have x0 : W30.cell? ⟨b5, 0, none⟩ = some (.int .u64 n1) := blk_cell U.h5 0
              have x1 : W30.cell? ⟨b5, 1, none⟩ = some (.int .u64 n2) := blk_cell U.h5 1
              have x2 : W30.cell? ⟨b5, 2, none⟩ = some (.int .u64 n3) := blk_cell U.h5 2
              have x3 : W30.cell? ⟨b5, 3, none⟩ = some (.slice A3 l.length c3) := blk_cell U.h5 3
              have x4 : W30.cell? ⟨b5, 4, none⟩ = some (.slice A4 lg.length c4) := blk_cell U.h5 4
              clear hC3 hC4
              by_cases hz : z = 0
              · have hz1 : (z == 0) = true := by simpa using hz
                have HZ := Hush.mk hz
                clear hz
                go_wp2_with fail
                refine (edit_Edit_Check.walk n1 n2 n3 A3 c3 l A4 c4 lg W30 C3.out C4.out).mono ?_
                rintro e_ W31 ⟨rfl, hb31⟩
                have h2' := (hb31.block _ (heap_lt U.h2)).trans U.h2
                have h5' := (hb31.block _ (heap_lt U.h5)).trans U.h5
                have o3' := Hush.mk (own_move U.o3 (fun k hk => by obtain ⟨cs, hc⟩ := own_type U.o3 hk; exact hb31.block _ (heap_lt hc)))
                have o4' := Hush.mk (own_move U.o4 (fun k hk => by obtain ⟨cs, hc⟩ := own_type U.o4 hk; exact hb31.block _ (heap_lt hc)))
                have bel' := Hush.mk (U.bel.trans (hb31.mono U.bel.size))
                have x0 : W31.cell? ⟨b5, 0, none⟩ = some (.int .u64 n1) := blk_cell h5' 0
                have x1 : W31.cell? ⟨b5, 1, none⟩ = some (.int .u64 n2) := blk_cell h5' 1
                have x2 : W31.cell? ⟨b5, 2, none⟩ = some (.int .u64 n3) := blk_cell h5' 2
                have x3 : W31.cell? ⟨b5, 3, none⟩ = some (.slice A3 l.length c3) := blk_cell h5' 3
                have x4 : W31.cell? ⟨b5, 4, none⟩ = some (.slice A4 lg.length c4) := blk_cell h5' 4
                have d0 : W31.cell? ⟨w.heap.size, 0, none⟩ = some (.int .u64 0) := blk_cell h2' 0
                have f0 := blk_frozen h2' 0
                have d1 : W31.cell? ⟨w.heap.size, 1, none⟩ = some (.int .u64 0) := blk_cell h2' 1
                have f1 := blk_frozen h2' 1
                have d2 : W31.cell? ⟨w.heap.size, 2, none⟩ = some (.int .u64 0) := blk_cell h2' 2
                have f2 := blk_frozen h2' 2
                have d3 : W31.cell? ⟨w.heap.size, 3, none⟩ = some (.slice none 0 0) := blk_cell h2' 3
                have f3 := blk_frozen h2' 3
                have d4 : W31.cell? ⟨w.heap.size, 4, none⟩ = some (.slice none 0 0) := blk_cell h2' 4
                have f4 := blk_frozen h2' 4
                have H2 := Hush.mk h2'
                clear h2' h5' hb31 U
                obtain ⟨cv, hcv⟩ : ∃ c, c = edit_Edit_Check.val l lg := ⟨_, rfl⟩
                rw [← hcv]
                have HV := Hush.mk hcv
                clear hcv
                by_cases hv : cv = 0
                · have hv1 : (cv == 0) = true := by simpa using hv
                  have hv2 : (cv != 0) = false := by simpa using hv
                  have HR : Hush (R = (n1, n2, n3, l, lg, 0)) := ⟨by rw [← HA.out, edit_Parse.fin, if_pos HZ.out, ← HV.out, if_pos hv]⟩
                  clear hv
                  go_wp2
                  obtain rfl := HR.out
                  exact bodyPost_ret (v := .tuple #[.agg #[.int .u64 n1, .int .u64 n2, .int .u64 n3, .slice A3 l.length c3, .slice A4 lg.length c4], .int .i64 0]) (by simp [results, Tryd.results18, go_sem, d0, d1, d2, d3, d4]) rfl
                    ⟨_, _, rfl, R_of_own (d := k107) edit_cells107 (fun _ => rfl) (fun ok x => k107_mkM _ _ ok x) (own_set5 _ _ _ _ _ o3'.out ⟨_, H2.out⟩ (by decide)), R_of_own (d := k111) edit_cells111 (fun _ => rfl) (fun ok x => k111_mkM _ _ ok x) (own_set5 _ _ _ _ _ o4'.out ⟨_, H2.out⟩ (by decide)), below_set5 _ _ _ _ _ bel'.out (Nat.le_refl _)⟩
                · have hv1 : (cv == 0) = false := by simpa using hv
                  have hv2 : (cv != 0) = true := by simpa using hv
                  have HR : Hush (R = (0, 0, 0, [], [], cv)) := ⟨by rw [← HA.out, edit_Parse.fin, if_pos HZ.out, ← HV.out, if_neg hv]⟩
                  clear hv
                  go_wp2
                  obtain rfl := HR.out
                  exact bodyPost_ret (v := .tuple #[.agg #[.int .u64 0, .int .u64 0, .int .u64 0, .slice none 0 0, .slice none 0 0], .int .i64 cv]) (by simp [results, Tryd.results18, go_sem, d0, d1, d2, d3, d4]) rfl ⟨_, _, rfl, Kd.R_nil _ _ _ _ _, Kd.R_nil _ _ _ _ _, below_set5 _ _ _ _ _ bel'.out (Nat.le_refl _)⟩
              · have hz1 : (z == 0) = false := by simpa using hz
                have hz2 : (z != 0) = true := by simpa using hz
                have HR : Hush (R = (0, 0, 0, [], [], z)) := ⟨by rw [← HA.out, edit_Parse.fin, if_neg hz]⟩
                clear hz
                have d0 : W30.cell? ⟨w.heap.size, 0, none⟩ = some (.int .u64 0) := blk_cell U.h2 0
                have f0 := blk_frozen U.h2 0
                have d1 : W30.cell? ⟨w.heap.size, 1, none⟩ = some (.int .u64 0) := blk_cell U.h2 1
                have f1 := blk_frozen U.h2 1
                have d2 : W30.cell? ⟨w.heap.size, 2, none⟩ = some (.int .u64 0) := blk_cell U.h2 2
                have f2 := blk_frozen U.h2 2
                have d3 : W30.cell? ⟨w.heap.size, 3, none⟩ = some (.slice none 0 0) := blk_cell U.h2 3
                have f3 := blk_frozen U.h2 3
                have d4 : W30.cell? ⟨w.heap.size, 4, none⟩ = some (.slice none 0 0) := blk_cell U.h2 4
                have f4 := blk_frozen U.h2 4
                have HU := Hush.mk U
                clear U
                go_wp2
                obtain rfl := HR.out
                exact bodyPost_ret (v := .tuple #[.agg #[.int .u64 0, .int .u64 0, .int .u64 0, .slice none 0 0, .slice none 0 0], .int .i64 z]) (by simp [results, Tryd.results18, go_sem, d0, d1, d2, d3, d4]) rfl ⟨_, _, rfl, Kd.R_nil _ _ _ _ _, Kd.R_nil _ _ _ _ _, below_set5 _ _ _ _ _ HU.out.bel (Nat.le_refl _)⟩
            · clear hgo
              go_wp2_with fail
              refine (varint_Reader_End.calls g _ _ _ _ _ _ _ w _ hT.rd hT.bel A.a8).mono ?_
              rintro e_ W30 ⟨rfl, hi, hb, hk⟩
              have U := hT.call hi hb hk
              have HA := Hush.mk A.hr
              clear hT hi hb hk
              have R3 := R_of_own (d := k107) edit_cells107 (fun _ => rfl) (fun ok x => k107_mkM _ _ ok x) U.o3
              have R4 := R_of_own (d := k111) edit_cells111 (fun _ => rfl) (fun ok x => k111_mkM _ _ ok x) U.o4
              obtain ⟨A3, c3, rfl, _, hC3⟩ := Kd.R_reads R3
              obtain ⟨A4, c4, rfl, _, hC4⟩ := Kd.R_reads R4
              have C3 := Hush.mk hC3
              have C4 := Hush.mk hC4
              have R3 := Hush.mk R3
              have R4 := Hush.mk R4
              have x0 : W30.cell? ⟨b5, 0, none⟩ = some (.int .u64 n1) := blk_cell U.h5 0
              have x1 : W30.cell? ⟨b5, 1, none⟩ = some (.int .u64 n2) := blk_cell U.h5 1
              have x2 : W30.cell? ⟨b5, 2, none⟩ = some (.int .u64 n3) := blk_cell U.h5 2
              have x3 : W30.cell? ⟨b5, 3, none⟩ = some (.slice A3 l.length c3) := blk_cell U.h5 3
              have x4 : W30.cell? ⟨b5, 4, none⟩ = some (.slice A4 lg.length c4) := blk_cell U.h5 4
              clear hC3 hC4
              by_cases hz : z = 0
              · have hz1 : (z == 0) = true := by simpa using hz
                have HZ := Hush.mk hz
                clear hz
                go_wp2_with fail
                refine (edit_Edit_Check.walk n1 n2 n3 A3 c3 l A4 c4 lg W30 C3.out C4.out).mono ?_
                rintro e_ W31 ⟨rfl, hb31⟩
                have h2' := (hb31.block _ (heap_lt U.h2)).trans U.h2
                have h5' := (hb31.block _ (heap_lt U.h5)).trans U.h5
                have o3' := Hush.mk (own_move U.o3 (fun k hk => by obtain ⟨cs, hc⟩ := own_type U.o3 hk; exact hb31.block _ (heap_lt hc)))
                have o4' := Hush.mk (own_move U.o4 (fun k hk => by obtain ⟨cs, hc⟩ := own_type U.o4 hk; exact hb31.block _ (heap_lt hc)))
                have bel' := Hush.mk (U.bel.trans (hb31.mono U.bel.size))
                have x0 : W31.cell? ⟨b5, 0, none⟩ = some (.int .u64 n1) := blk_cell h5' 0
                have x1 : W31.cell? ⟨b5, 1, none⟩ = some (.int .u64 n2) := blk_cell h5' 1
                have x2 : W31.cell? ⟨b5, 2, none⟩ = some (.int .u64 n3) := blk_cell h5' 2
                have x3 : W31.cell? ⟨b5, 3, none⟩ = some (.slice A3 l.length c3) := blk_cell h5' 3
                have x4 : W31.cell? ⟨b5, 4, none⟩ = some (.slice A4 lg.length c4) := blk_cell h5' 4
                have d0 : W31.cell? ⟨w.heap.size, 0, none⟩ = some (.int .u64 0) := blk_cell h2' 0
                have f0 := blk_frozen h2' 0
                have d1 : W31.cell? ⟨w.heap.size, 1, none⟩ = some (.int .u64 0) := blk_cell h2' 1
                have f1 := blk_frozen h2' 1
                have d2 : W31.cell? ⟨w.heap.size, 2, none⟩ = some (.int .u64 0) := blk_cell h2' 2
                have f2 := blk_frozen h2' 2
                have d3 : W31.cell? ⟨w.heap.size, 3, none⟩ = some (.slice none 0 0) := blk_cell h2' 3
                have f3 := blk_frozen h2' 3
                have d4 : W31.cell? ⟨w.heap.size, 4, none⟩ = some (.slice none 0 0) := blk_cell h2' 4
                have f4 := blk_frozen h2' 4
                have H2 := Hush.mk h2'
                clear h2' h5' hb31 U
                obtain ⟨cv, hcv⟩ : ∃ c, c = edit_Edit_Check.val l lg := ⟨_, rfl⟩
                rw [← hcv]
                have HV := Hush.mk hcv
                clear hcv
                by_cases hv : cv = 0
                · have hv1 : (cv == 0) = true := by simpa using hv
                  have hv2 : (cv != 0) = false := by simpa using hv
                  have HR : Hush (R = (n1, n2, n3, l, lg, 0)) := ⟨by rw [← HA.out, edit_Parse.fin, if_pos HZ.out, ← HV.out, if_pos hv]⟩
                  clear hv
                  go_wp2
                  obtain rfl := HR.out
                  exact bodyPost_ret (v := .tuple #[.agg #[.int .u64 n1, .int .u64 n2, .int .u64 n3, .slice A3 l.length c3, .slice A4 lg.length c4], .int .i64 0]) (by simp [results, Tryd.results18, go_sem, d0, d1, d2, d3, d4]) rfl
                    ⟨_, _, rfl, R_of_own (d := k107) edit_cells107 (fun _ => rfl) (fun ok x => k107_mkM _ _ ok x) (own_set5 _ _ _ _ _ o3'.out ⟨_, H2.out⟩ (by decide)), R_of_own (d := k111) edit_cells111 (fun _ => rfl) (fun ok x => k111_mkM _ _ ok x) (own_set5 _ _ _ _ _ o4'.out ⟨_, H2.out⟩ (by decide)), below_set5 _ _ _ _ _ bel'.out (Nat.le_refl _)⟩
                · have hv1 : (cv == 0) = false := by simpa using hv
                  have hv2 : (cv != 0) = true := by simpa using hv
                  have HR : Hush (R = (0, 0, 0, [], [], cv)) := ⟨by rw [← HA.out, edit_Parse.fin, if_pos HZ.out, ← HV.out, if_neg hv]⟩
                  clear hv
                  go_wp2
                  obtain rfl := HR.out
                  exact bodyPost_ret (v := .tuple #[.agg #[.int .u64 0, .int .u64 0, .int .u64 0, .slice none 0 0, .slice none 0 0], .int .i64 cv]) (by simp [results, Tryd.results18, go_sem, d0, d1, d2, d3, d4]) rfl ⟨_, _, rfl, Kd.R_nil _ _ _ _ _, Kd.R_nil _ _ _ _ _, below_set5 _ _ _ _ _ bel'.out (Nat.le_refl _)⟩
              · have hz1 : (z == 0) = false := by simpa using hz
                have hz2 : (z != 0) = true := by simpa using hz
                have HR : Hush (R = (0, 0, 0, [], [], z)) := ⟨by rw [← HA.out, edit_Parse.fin, if_neg hz]⟩
                clear hz
                have d0 : W30.cell? ⟨w.heap.size, 0, none⟩ = some (.int .u64 0) := blk_cell U.h2 0
                have f0 := blk_frozen U.h2 0
                have d1 : W30.cell? ⟨w.heap.size, 1, none⟩ = some (.int .u64 0) := blk_cell U.h2 1
                have f1 := blk_frozen U.h2 1
                have d2 : W30.cell? ⟨w.heap.size, 2, none⟩ = some (.int .u64 0) := blk_cell U.h2 2
                have f2 := blk_frozen U.h2 2
                have d3 : W30.cell? ⟨w.heap.size, 3, none⟩ = some (.slice none 0 0) := blk_cell U.h2 3
                have f3 := blk_frozen U.h2 3
                have d4 : W30.cell? ⟨w.heap.size, 4, none⟩ = some (.slice none 0 0) := blk_cell U.h2 4
                have f4 := blk_frozen U.h2 4
                have HU := Hush.mk U
                clear U
                go_wp2
                obtain rfl := HR.out
                exact bodyPost_ret (v := .tuple #[.agg #[.int .u64 0, .int .u64 0, .int .u64 0, .slice none 0 0, .slice none 0 0], .int .i64 z]) (by simp [results, Tryd.results18, go_sem, d0, d1, d2, d3, d4]) rfl ⟨_, _, rfl, Kd.R_nil _ _ _ _ _, Kd.R_nil _ _ _ _ _, below_set5 _ _ _ _ _ HU.out.bel (Nat.le_refl _)⟩
      · clear hgo
        go_wp2_with fail
        refine (edit_count.calls g _ _ _ _ _ _ _ w _ hS.rd hS.bel A.a6).mono ?_
        rintro e_ W20 ⟨rfl, hi20, hb20, hk20⟩
        have T0 := hS.call hi20 hb20 hk20
        clear hS hi20 hb20 hk20
        go_wp2_with fail
        go_loopw [9] (fun i wr => ∃ iv : Int, i = .int .u64 iv ∧ edit_Parse.J2 w g w.heap.size b5 n1 n2 n3 n6 l v3 (l4, s7, p7, e7) iv wr) (fun i _ => (n6 - intOf i).toNat)
        case atStart => exact ⟨0, rfl, n6.toNat, s6, p6, e6, _, _, by omega, by omega, T0, A.a7⟩
        case round =>
          clear T0
          obtain ⟨iv, rfl, m, s, p, e, v4, lg, hi0, him, hT, hc⟩ := hrel
          have HC := Hush.mk hc
          clear hc
          by_cases hgo : iv < n6 ∧ e = 0
          · obtain ⟨hlt2, he⟩ := hgo
            obtain ⟨m, rfl⟩ : ∃ m', m = m' + 1 := ⟨m - 1, by omega⟩
            obtain ⟨hll, a, t1, t2, q1, q2, f1, f2, HCm, hcs⟩ := edit_Parse.gones_go (he ▸ HC.out)
            have HN := Hush.mk hcs
            have LX := Hush.mk hll
            subst he
            clear HC hcs hll
            go_wp2_with fail
            refine (varint_Reader_Err.calls g s p 0 0 s p 0 w wr hT.rd hT.bel rfl).mono ?_
            rintro e_ W21 ⟨rfl, hi, hb, hk⟩
            have T1 := hT.call hi hb hk
            have y1 : W21.cell? ⟨b5, 4, none⟩ = some v4 := blk_cell T1.h5 4
            clear hT hi hb hk
            go_wp2_with fail
            obtain ⟨hc1, hc2⟩ := HCm
            have T1 := T1.drew
            have HC1 := Hush.mk hc1
            have HC2 := Hush.mk hc2
            clear hc1 hc2
            obtain ⟨I7, HI7, HZ0, HZ1, HZ2⟩ := info_parts edit_Parse.info111
            go_region_law (first | (refine step_append_lies _ rfl _ _ 24 rfl w.heap.size 111 I7 _ 2 16 Tryd.underlying24 HI7 HZ0 HZ1 HZ2 rfl (by decide) v4 lg.length (lg.flatMap edit_cells111) rfl (T3.alloc (.cells #[.int .i64 a.f0, .int .u64 a.f1] 111)).o4 ⟨W23.heap.size, 0, none⟩ 1 1 (edit_cells111 a) rfl rfl (cells_new W23 (edit_cells111 a) 111) (by intro u hu; simp [edit_cells111] at hu; rcases hu with rfl | rfl <;> rfl) (by decide) (by have := LX.out; unfold maxLen; omega) (by have := LX.out; omega) (T3.alloc (.cells #[.int .i64 a.f0, .int .u64 a.f1] 111)).bel.size _ rfl ?_; intro g' cap' w1 hown1 hgrow _ _; have TP := (T3.alloc (.cells #[.int .i64 a.f0, .int .u64 a.f1] 111)).push4 hown1 hgrow; have y4 := (blk_cell TP.h5 4).trans rfl; have x4 := blk_frozen TP.h5 4; have TQ := Hush.mk (TP.set5 4 (.slice (some ⟨g', 0, none⟩) (lg.length + 1) cap')); clear TP hown1 hgrow) | (go_simp; go_at_call 59; refine (edit_levelOf.calls g s p 0 a.f0 t1 q1 f1 w _ T1.rd T1.bel HC1.out).mono ?_; rintro e_ W22 ⟨rfl, hi, hb, hk⟩; have T2 : edit_Parse.St w g w.heap.size b5 t1 q1 f1 _ v3 l v4 lg W22 := T1.call hi hb hk; have y2 : W22.cell? ⟨b5, 4, none⟩ = some v4 := blk_cell T2.h5 4; clear hi hb hk) | (go_simp; go_at_call 56; refine (varint_Reader_Num.calls g t1 q1 f1 a.f1 t2 q2 f2 w _ T2.rd T2.bel HC2.out).mono ?_; rintro e_ W23 ⟨rfl, hi, hb, hk⟩; have T3 : edit_Parse.St w g w.heap.size b5 t2 q2 f2 _ v3 l v4 lg W23 := T2.call hi hb hk; have y3 : W23.cell? ⟨b5, 4, none⟩ = some v4 := blk_cell T3.h5 4; have y3a : (W23.alloc (.cells #[.int .i64 a.f0, .int .u64 a.f1] 111)).cell? ⟨b5, 4, none⟩ = some v4 := blk_cell (T3.alloc (.cells #[.int .i64 a.f0, .int .u64 a.f1] 111)).h5 4; clear hi hb hk))
            all_goals
              go_wp2
              go_roundw
              case rel => exact ⟨iv + 1, by go_num, m, t2, q2, f2, _, lg ++ [a], by omega, by omega, TQ.out, HN.out⟩
              case measure => simp [intOf]; omega
          · have hst := edit_Parse.gones_stop HC.out (by omega)
            simp only [Prod.mk.injEq] at hst
            obtain ⟨rfl, rfl, rfl, rfl⟩ := hst
            clear HC
            by_cases hlt2 : iv < n6
            · have he : (e == 0) = false := by simpa using (fun h => hgo ⟨hlt2, h⟩ : ¬ e = 0)
              clear hgo
              go_wp2_with fail
              refine (varint_Reader_Err.calls g s p e e s p e w wr hT.rd hT.bel rfl).mono ?_
              rintro e_ W21 ⟨rfl, hi, hb, hk⟩
              have T1 := hT.call hi hb hk
              clear hT hi hb hk
              go_wp2_with fail
              refine (varint_Reader_End.calls g _ _ _ _ _ _ _ w _ T1.rd T1.bel A.a8).mono ?_
              rintro e_ W30 ⟨rfl, hi, hb, hk⟩
              have U := T1.call hi hb hk
              have HA := Hush.mk A.hr
              clear T1 hi hb hk
              have R3 := R_of_own (d := k107) edit_cells107 (fun _ => rfl) (fun ok x => k107_mkM _ _ ok x) U.o3
              have R4 := R_of_own (d := k111) edit_cells111 (fun _ => rfl) (fun ok x => k111_mkM _ _ ok x) U.o4
              obtain ⟨A3, c3, rfl, _, hC3⟩ := Kd.R_reads R3
              obtain ⟨A4, c4, rfl, _, hC4⟩ := Kd.R_reads R4
              have C3 := Hush.mk hC3
              have C4 := Hush.mk hC4
              have R3 := Hush.mk R3
              have R4 := Hush.mk R4
              have x0 : W30.cell? ⟨b5, 0, none⟩ = some (.int .u64 n1) := blk_cell U.h5 0
              have x1 : W30.cell? ⟨b5, 1, none⟩ = some (.int .u64 n2) := blk_cell U.h5 1
              have x2 : W30.cell? ⟨b5, 2, none⟩ = some (.int .u64 n3) := blk_cell U.h5 2
              have x3 : W30.cell? ⟨b5, 3, none⟩ = some (.slice A3 l.length c3) := blk_cell U.h5 3
              have x4 : W30.cell? ⟨b5, 4, none⟩ = some (.slice A4 lg.length c4) := blk_cell U.h5 4
              clear hC3 hC4
              by_cases hz : z = 0
              · have hz1 : (z == 0) = true := by simpa using hz
                have HZ := Hush.mk hz
                clear hz
                go_wp2_with fail
                refine (edit_Edit_Check.walk n1 n2 n3 A3 c3 l A4 c4 lg W30 C3.out C4.out).mono ?_
                rintro e_ W31 ⟨rfl, hb31⟩
                have h2' := (hb31.block _ (heap_lt U.h2)).trans U.h2
                have h5' := (hb31.block _ (heap_lt U.h5)).trans U.h5
                have o3' := Hush.mk (own_move U.o3 (fun k hk => by obtain ⟨cs, hc⟩ := own_type U.o3 hk; exact hb31.block _ (heap_lt hc)))
                have o4' := Hush.mk (own_move U.o4 (fun k hk => by obtain ⟨cs, hc⟩ := own_type U.o4 hk; exact hb31.block _ (heap_lt hc)))
                have bel' := Hush.mk (U.bel.trans (hb31.mono U.bel.size))
                have x0 : W31.cell? ⟨b5, 0, none⟩ = some (.int .u64 n1) := blk_cell h5' 0
                have x1 : W31.cell? ⟨b5, 1, none⟩ = some (.int .u64 n2) := blk_cell h5' 1
                have x2 : W31.cell? ⟨b5, 2, none⟩ = some (.int .u64 n3) := blk_cell h5' 2
                have x3 : W31.cell? ⟨b5, 3, none⟩ = some (.slice A3 l.length c3) := blk_cell h5' 3
                have x4 : W31.cell? ⟨b5, 4, none⟩ = some (.slice A4 lg.length c4) := blk_cell h5' 4
                have d0 : W31.cell? ⟨w.heap.size, 0, none⟩ = some (.int .u64 0) := blk_cell h2' 0
                have f0 := blk_frozen h2' 0
                have d1 : W31.cell? ⟨w.heap.size, 1, none⟩ = some (.int .u64 0) := blk_cell h2' 1
                have f1 := blk_frozen h2' 1
                have d2 : W31.cell? ⟨w.heap.size, 2, none⟩ = some (.int .u64 0) := blk_cell h2' 2
                have f2 := blk_frozen h2' 2
                have d3 : W31.cell? ⟨w.heap.size, 3, none⟩ = some (.slice none 0 0) := blk_cell h2' 3
                have f3 := blk_frozen h2' 3
                have d4 : W31.cell? ⟨w.heap.size, 4, none⟩ = some (.slice none 0 0) := blk_cell h2' 4
                have f4 := blk_frozen h2' 4
                have H2 := Hush.mk h2'
                clear h2' h5' hb31 U
                obtain ⟨cv, hcv⟩ : ∃ c, c = edit_Edit_Check.val l lg := ⟨_, rfl⟩
                rw [← hcv]
                have HV := Hush.mk hcv
                clear hcv
                by_cases hv : cv = 0
                · have hv1 : (cv == 0) = true := by simpa using hv
                  have hv2 : (cv != 0) = false := by simpa using hv
                  have HR : Hush (R = (n1, n2, n3, l, lg, 0)) := ⟨by rw [← HA.out, edit_Parse.fin, if_pos HZ.out, ← HV.out, if_pos hv]⟩
                  clear hv
                  go_wp2
                  obtain rfl := HR.out
                  exact bodyPost_ret (v := .tuple #[.agg #[.int .u64 n1, .int .u64 n2, .int .u64 n3, .slice A3 l.length c3, .slice A4 lg.length c4], .int .i64 0]) (by simp [results, Tryd.results18, go_sem, d0, d1, d2, d3, d4]) rfl
                    ⟨_, _, rfl, R_of_own (d := k107) edit_cells107 (fun _ => rfl) (fun ok x => k107_mkM _ _ ok x) (own_set5 _ _ _ _ _ o3'.out ⟨_, H2.out⟩ (by decide)), R_of_own (d := k111) edit_cells111 (fun _ => rfl) (fun ok x => k111_mkM _ _ ok x) (own_set5 _ _ _ _ _ o4'.out ⟨_, H2.out⟩ (by decide)), below_set5 _ _ _ _ _ bel'.out (Nat.le_refl _)⟩
                · have hv1 : (cv == 0) = false := by simpa using hv
                  have hv2 : (cv != 0) = true := by simpa using hv
                  have HR : Hush (R = (0, 0, 0, [], [], cv)) := ⟨by rw [← HA.out, edit_Parse.fin, if_pos HZ.out, ← HV.out, if_neg hv]⟩
                  clear hv
                  go_wp2
                  obtain rfl := HR.out
                  exact bodyPost_ret (v := .tuple #[.agg #[.int .u64 0, .int .u64 0, .int .u64 0, .slice none 0 0, .slice none 0 0], .int .i64 cv]) (by simp [results, Tryd.results18, go_sem, d0, d1, d2, d3, d4]) rfl ⟨_, _, rfl, Kd.R_nil _ _ _ _ _, Kd.R_nil _ _ _ _ _, below_set5 _ _ _ _ _ bel'.out (Nat.le_refl _)⟩
              · have hz1 : (z == 0) = false := by simpa using hz
                have hz2 : (z != 0) = true := by simpa using hz
                have HR : Hush (R = (0, 0, 0, [], [], z)) := ⟨by rw [← HA.out, edit_Parse.fin, if_neg hz]⟩
                clear hz
                have d0 : W30.cell? ⟨w.heap.size, 0, none⟩ = some (.int .u64 0) := blk_cell U.h2 0
                have f0 := blk_frozen U.h2 0
                have d1 : W30.cell? ⟨w.heap.size, 1, none⟩ = some (.int .u64 0) := blk_cell U.h2 1
                have f1 := blk_frozen U.h2 1
                have d2 : W30.cell? ⟨w.heap.size, 2, none⟩ = some (.int .u64 0) := blk_cell U.h2 2
                have f2 := blk_frozen U.h2 2
                have d3 : W30.cell? ⟨w.heap.size, 3, none⟩ = some (.slice none 0 0) := blk_cell U.h2 3
                have f3 := blk_frozen U.h2 3
                have d4 : W30.cell? ⟨w.heap.size, 4, none⟩ = some (.slice none 0 0) := blk_cell U.h2 4
                have f4 := blk_frozen U.h2 4
                have HU := Hush.mk U
                clear U
                go_wp2
                obtain rfl := HR.out
                exact bodyPost_ret (v := .tuple #[.agg #[.int .u64 0, .int .u64 0, .int .u64 0, .slice none 0 0, .slice none 0 0], .int .i64 z]) (by simp [results, Tryd.results18, go_sem, d0, d1, d2, d3, d4]) rfl ⟨_, _, rfl, Kd.R_nil _ _ _ _ _, Kd.R_nil _ _ _ _ _, below_set5 _ _ _ _ _ HU.out.bel (Nat.le_refl _)⟩
            · clear hgo
              go_wp2_with fail
              refine (varint_Reader_End.calls g _ _ _ _ _ _ _ w _ hT.rd hT.bel A.a8).mono ?_
              rintro e_ W30 ⟨rfl, hi, hb, hk⟩
              have U := hT.call hi hb hk
              have HA := Hush.mk A.hr
              clear hT hi hb hk
              have R3 := R_of_own (d := k107) edit_cells107 (fun _ => rfl) (fun ok x => k107_mkM _ _ ok x) U.o3
              have R4 := R_of_own (d := k111) edit_cells111 (fun _ => rfl) (fun ok x => k111_mkM _ _ ok x) U.o4
              obtain ⟨A3, c3, rfl, _, hC3⟩ := Kd.R_reads R3
              obtain ⟨A4, c4, rfl, _, hC4⟩ := Kd.R_reads R4
              have C3 := Hush.mk hC3
              have C4 := Hush.mk hC4
              have R3 := Hush.mk R3
              have R4 := Hush.mk R4
              have x0 : W30.cell? ⟨b5, 0, none⟩ = some (.int .u64 n1) := blk_cell U.h5 0
              have x1 : W30.cell? ⟨b5, 1, none⟩ = some (.int .u64 n2) := blk_cell U.h5 1
              have x2 : W30.cell? ⟨b5, 2, none⟩ = some (.int .u64 n3) := blk_cell U.h5 2
              have x3 : W30.cell? ⟨b5, 3, none⟩ = some (.slice A3 l.length c3) := blk_cell U.h5 3
              have x4 : W30.cell? ⟨b5, 4, none⟩ = some (.slice A4 lg.length c4) := blk_cell U.h5 4
              clear hC3 hC4
              by_cases hz : z = 0
              · have hz1 : (z == 0) = true := by simpa using hz
                have HZ := Hush.mk hz
                clear hz
                go_wp2_with fail
                refine (edit_Edit_Check.walk n1 n2 n3 A3 c3 l A4 c4 lg W30 C3.out C4.out).mono ?_
                rintro e_ W31 ⟨rfl, hb31⟩
                have h2' := (hb31.block _ (heap_lt U.h2)).trans U.h2
                have h5' := (hb31.block _ (heap_lt U.h5)).trans U.h5
                have o3' := Hush.mk (own_move U.o3 (fun k hk => by obtain ⟨cs, hc⟩ := own_type U.o3 hk; exact hb31.block _ (heap_lt hc)))
                have o4' := Hush.mk (own_move U.o4 (fun k hk => by obtain ⟨cs, hc⟩ := own_type U.o4 hk; exact hb31.block _ (heap_lt hc)))
                have bel' := Hush.mk (U.bel.trans (hb31.mono U.bel.size))
                have x0 : W31.cell? ⟨b5, 0, none⟩ = some (.int .u64 n1) := blk_cell h5' 0
                have x1 : W31.cell? ⟨b5, 1, none⟩ = some (.int .u64 n2) := blk_cell h5' 1
                have x2 : W31.cell? ⟨b5, 2, none⟩ = some (.int .u64 n3) := blk_cell h5' 2
                have x3 : W31.cell? ⟨b5, 3, none⟩ = some (.slice A3 l.length c3) := blk_cell h5' 3
                have x4 : W31.cell? ⟨b5, 4, none⟩ = some (.slice A4 lg.length c4) := blk_cell h5' 4
                have d0 : W31.cell? ⟨w.heap.size, 0, none⟩ = some (.int .u64 0) := blk_cell h2' 0
                have f0 := blk_frozen h2' 0
                have d1 : W31.cell? ⟨w.heap.size, 1, none⟩ = some (.int .u64 0) := blk_cell h2' 1
                have f1 := blk_frozen h2' 1
                have d2 : W31.cell? ⟨w.heap.size, 2, none⟩ = some (.int .u64 0) := blk_cell h2' 2
                have f2 := blk_frozen h2' 2
                have d3 : W31.cell? ⟨w.heap.size, 3, none⟩ = some (.slice none 0 0) := blk_cell h2' 3
                have f3 := blk_frozen h2' 3
                have d4 : W31.cell? ⟨w.heap.size, 4, none⟩ = some (.slice none 0 0) := blk_cell h2' 4
                have f4 := blk_frozen h2' 4
                have H2 := Hush.mk h2'
                clear h2' h5' hb31 U
                obtain ⟨cv, hcv⟩ : ∃ c, c = edit_Edit_Check.val l lg := ⟨_, rfl⟩
                rw [← hcv]
                have HV := Hush.mk hcv
                clear hcv
                by_cases hv : cv = 0
                · have hv1 : (cv == 0) = true := by simpa using hv
                  have hv2 : (cv != 0) = false := by simpa using hv
                  have HR : Hush (R = (n1, n2, n3, l, lg, 0)) := ⟨by rw [← HA.out, edit_Parse.fin, if_pos HZ.out, ← HV.out, if_pos hv]⟩
                  clear hv
                  go_wp2
                  obtain rfl := HR.out
                  exact bodyPost_ret (v := .tuple #[.agg #[.int .u64 n1, .int .u64 n2, .int .u64 n3, .slice A3 l.length c3, .slice A4 lg.length c4], .int .i64 0]) (by simp [results, Tryd.results18, go_sem, d0, d1, d2, d3, d4]) rfl
                    ⟨_, _, rfl, R_of_own (d := k107) edit_cells107 (fun _ => rfl) (fun ok x => k107_mkM _ _ ok x) (own_set5 _ _ _ _ _ o3'.out ⟨_, H2.out⟩ (by decide)), R_of_own (d := k111) edit_cells111 (fun _ => rfl) (fun ok x => k111_mkM _ _ ok x) (own_set5 _ _ _ _ _ o4'.out ⟨_, H2.out⟩ (by decide)), below_set5 _ _ _ _ _ bel'.out (Nat.le_refl _)⟩
                · have hv1 : (cv == 0) = false := by simpa using hv
                  have hv2 : (cv != 0) = true := by simpa using hv
                  have HR : Hush (R = (0, 0, 0, [], [], cv)) := ⟨by rw [← HA.out, edit_Parse.fin, if_pos HZ.out, ← HV.out, if_neg hv]⟩
                  clear hv
                  go_wp2
                  obtain rfl := HR.out
                  exact bodyPost_ret (v := .tuple #[.agg #[.int .u64 0, .int .u64 0, .int .u64 0, .slice none 0 0, .slice none 0 0], .int .i64 cv]) (by simp [results, Tryd.results18, go_sem, d0, d1, d2, d3, d4]) rfl ⟨_, _, rfl, Kd.R_nil _ _ _ _ _, Kd.R_nil _ _ _ _ _, below_set5 _ _ _ _ _ bel'.out (Nat.le_refl _)⟩
              · have hz1 : (z == 0) = false := by simpa using hz
                have hz2 : (z != 0) = true := by simpa using hz
                have HR : Hush (R = (0, 0, 0, [], [], z)) := ⟨by rw [← HA.out, edit_Parse.fin, if_neg hz]⟩
                clear hz
                have d0 : W30.cell? ⟨w.heap.size, 0, none⟩ = some (.int .u64 0) := blk_cell U.h2 0
                have f0 := blk_frozen U.h2 0
                have d1 : W30.cell? ⟨w.heap.size, 1, none⟩ = some (.int .u64 0) := blk_cell U.h2 1
                have f1 := blk_frozen U.h2 1
                have d2 : W30.cell? ⟨w.heap.size, 2, none⟩ = some (.int .u64 0) := blk_cell U.h2 2
                have f2 := blk_frozen U.h2 2
                have d3 : W30.cell? ⟨w.heap.size, 3, none⟩ = some (.slice none 0 0) := blk_cell U.h2 3
                have f3 := blk_frozen U.h2 3
                have d4 : W30.cell? ⟨w.heap.size, 4, none⟩ = some (.slice none 0 0) := blk_cell U.h2 4
                have f4 := blk_frozen U.h2 4
                have HU := Hush.mk U
                clear U
                go_wp2
                obtain rfl := HR.out
                exact bodyPost_ret (v := .tuple #[.agg #[.int .u64 0, .int .u64 0, .int .u64 0, .slice none 0 0, .slice none 0 0], .int .i64 z]) (by simp [results, Tryd.results18, go_sem, d0, d1, d2, d3, d4]) rfl ⟨_, _, rfl, Kd.R_nil _ _ _ _ _, Kd.R_nil _ _ _ _ _, below_set5 _ _ _ _ _ HU.out.bel (Nat.le_refl _)⟩
theorem edit_Parse.calls (a0 : ByteArray) (r1 : Int) (r2 : Int) (r3 : Int) (r4 : List (S107)) (r5 : List (S111)) (r6 : Int) (w : World) (h : edit_Parse.f a0 = some (r1, r2, r3, r4, r5, r6)) :
    Calls Tryd.prog 18 #[.string a0] w fun e w' => ∃ v3_ v4_ : Value, e = .returned (.tuple #[.agg #[.int .u64 r1, .int .u64 r2, .int .u64 r3, v3_, v4_], .int .i64 r6]) ∧ Kd.R k107 107 w' w.heap.size (fun _ => True) v3_ r4 ∧ Kd.R k111 111 w' w.heap.size (fun _ => True) v4_ r5 ∧ Below w.heap.size w w' := edit_Parse.walk a0 _ w h
end Go.Proofs.YteilnbnnhocciaaDoor.KV

/-! KV45 -/
namespace Go.Proofs.YteilnbnnhocciaaDoor.KV
open Go.RowKit Go.Proofs.YteilnbnnhocciaaDoorW.PrintWords Go.Proofs.YteilnbnnhocciaaDoorW.PrintLast Go.Proofs.YteilnbnnhocciaaDoorW.PrintMore Go.Proofs.YteilnbnnhocciaaDoorM
attribute [local go_sem] max2_int min2_int max_two min_two max_three min_three max_four min_four
set_option linter.unusedVariables false
set_option linter.unusedSimpArgs false
def bourselaw12_awake.f : Option Bool := some true
theorem bourselaw12_awake.bytes : edit_Edit_Bytes.f 20 0 0 0 [] [] = some (⟨#[0, 0, 0, 0, 0]⟩, 0) := by decide +kernel
theorem bourselaw12_awake.parse : edit_Parse.f ⟨#[0, 0, 0, 0, 0]⟩ = some (0, 0, 0, [], [], 0) := by kernel_rfl
set_option maxHeartbeats 2000000 in
set_option maxRecDepth 100000 in
theorem bourselaw12_awake.walk (w : World) : Calls Tryd.prog 13 #[] w fun e w' => e = .returned (.bool true) ∧ Below w.heap.size w w' := by
  have H1 := Hush.mk bourselaw12_awake.bytes
  have H2 := Hush.mk bourselaw12_awake.parse
  go_enter Tryd.func13, Tryd.ntmps13
  go_wp2_with fail
  refine (edit_Edit_Bytes.calls 20 0 0 0 none 0 [] none 0 [] _ _ _ (Kd.C_nil _ _) (Nat.le_refl _) (Kd.C_nil _ _) (Nat.le_refl _) H1.out).mono ?_
  rintro e w1 ⟨rfl, hb1⟩
  go_wp2_with fail
  refine (edit_Parse.calls _ _ _ _ _ _ _ _ H2.out).mono ?_
  rintro e w2 ⟨v3, v4, rfl, hR3, hR4, hb2⟩
  obtain ⟨A3, c3, rfl⟩ := Kd.R_slice hR3
  obtain ⟨A4, c4, rfl⟩ := Kd.R_slice hR4
  clear hR3 hR4
  have hb : Below w.heap.size w w2 := hb1.trans (hb2.mono hb1.size)
  go_wp2_with fail
  refine (name_t7 _).mono ?_
  rintro e w3 ⟨rfl, rfl⟩
  go_wp2
  go_ret
  exact ⟨rfl, hb.alloc hb.size _⟩
theorem bourselaw12_awake.calls (r : Bool) (w : World) (h : bourselaw12_awake.f = some r) :
    Calls Tryd.prog 13 #[] w fun e w' => e = .returned (.bool r) ∧ Below w.heap.size w w' := by
  obtain rfl := Option.some.inj h
  exact bourselaw12_awake.walk w
end Go.Proofs.YteilnbnnhocciaaDoor.KV

/-! KV46 -/
namespace Go.Proofs.YteilnbnnhocciaaDoor.KV
open Go.RowKit Go.Proofs.YteilnbnnhocciaaDoorW.PrintWords Go.Proofs.YteilnbnnhocciaaDoorW.PrintLast Go.Proofs.YteilnbnnhocciaaDoorW.PrintMore Go.Proofs.YteilnbnnhocciaaDoorM
attribute [local go_sem] max2_int min2_int max_two min_two max_three min_three max_four min_four
set_option linter.unusedVariables false
set_option linter.unusedSimpArgs false
def bourselaw12_Awake.f  : Option (Bool) := (bourselaw12_awake.f).bind fun t183 => (some t183)
set_option maxHeartbeats 8000000 in
set_option maxRecDepth 100000 in
theorem bourselaw12_Awake.calls  (r : Bool) (w : World) (h : bourselaw12_Awake.f  = some r) :
    Calls Tryd.prog 88 #[] w fun e w' => e = .returned (.bool r) ∧ Below w.heap.size w w' := by
  have HB := Aside0.mk (Below.refl w.heap.size w)
  have H : ((bourselaw12_awake.f).bind fun t183 => (some t183)) = some r := h
  clear h
  replace H := Option.bind_eq_some_iff.mp H
  obtain ⟨t183, A10, H⟩ := H
  replace H : (some t183) = some r := H
  have A1 := Aside0.mk A10
  clear A10
  obtain rfl := Option.some.inj H
  go_enter Tryd.func88, Tryd.ntmps88
  go_wp2_with (first | ((with_reducible refine gate_callee (f := 13) rfl ?_); refine goesL_ (some 1) rfl rfl Tryd.func13 (by kernel_rfl) rfl #[] rfl (by (try simp only [List.map_toArray, List.map_cons, List.map_nil]); first | done | rfl | (simp only [List.length_drop, List.length_take]; rfl)) ?_; (with_reducible refine (bourselaw12_awake.calls  t183 _ A1.out).mono ?_); rintro e w2 ⟨rfl, hb⟩; refine ⟨_, rfl, ?_⟩; have n0_ := Aside0.mk (below_step (by repeat (first | (with_reducible first | exact HB.out | apply below_alloc | apply pw_below_drewN | apply below_drew1) | exact HB.out)) hb); clear HB; have HB := n0_; clear n0_; (try clear hb); (try clear hb2); (try clear hk); (try clear hi)))
  go_ret
  exact ⟨by first | rfl | (simp [errW_none, errW_some] <;> rfl) | (simp [*, errW_none, errW_some] <;> rfl), by repeat (first | (with_reducible first | exact HB.out | apply below_alloc | apply pw_below_drewN | apply below_drew1) | exact HB.out)⟩
end Go.Proofs.YteilnbnnhocciaaDoor.KV

/-! V18 -/
set_option linter.unusedVariables false
set_option linter.unusedSimpArgs false
namespace Go.Proofs.YteilnbnnhocciaaDoor.V
open Go.Proofs Go.RowKit Go.BigFrame Go.Proofs.YteilnbnnhocciaaDoorM Go.Proofs.YteilnbnnhocciaaDoorW.PrintWords Go.Proofs.YteilnbnnhocciaaDoorW.PrintLast Go.Proofs.YteilnbnnhocciaaDoorW.PrintMore Go.Proofs.YteilnbnnhocciaaDoor.KV
set_option maxHeartbeats 4000000 in
set_option maxRecDepth 100000 in
theorem pick_nil (w : World) : Calls Tryd.prog 40 #[.agg #[.slice none 0 0, .slice none 0 0, .slice none 0 0, .slice none 0 0], .int .i64 0, .int .i64 0] w fun e w' => e = .returned (.tuple #[.agg #[.int .i64 0, .slice none 0 0, .slice none 0 0], .bool false]) ∧ Below w.heap.size w w' := by
  have z1 := size_alloc w (.cells #[.slice none 0 0, .slice none 0 0, .slice none 0 0, .slice none 0 0] 79)
  have HB := Hush.mk (((Below.refl w.heap.size w).alloc (Nat.le_refl _) (.cells #[.slice none 0 0, .slice none 0 0, .slice none 0 0, .slice none 0 0] 79)).alloc (by omega) (.cells #[.int .i64 0, .slice none 0 0, .slice none 0 0] 87))
  clear z1
  go_enter Tryd.func40, Tryd.ntmps40
  go_wp2
  refine wp_scope_jumps 0 (fun _ _ => False) (fun _ _ => 0) rfl ?_ (fun a w h => h.elim)
  go_wp2
  refine (?_ : bodyPost Tryd.prog Tryd.f40 (fun e w' => e = .returned (.tuple #[.agg #[.int .i64 0, .slice none 0 0, .slice none 0 0], .bool false]) ∧ Below w.heap.size w w') .ret _ _)
  exact bodyPost_ret (v := .tuple #[.agg #[.int .i64 0, .slice none 0 0, .slice none 0 0], .bool false]) (by simp [results, Tryd.results40, go_sem]) rfl ⟨rfl, HB.out⟩
theorem clone_nil (w : World) : Calls Tryd.prog 130 #[.slice none 0 0] w fun e w' => e = .returned (.slice none 0 0) ∧ w' = w := AnyE.slices_Clone_nil Tryd.clone130 0 0 w
set_option maxHeartbeats 4000000 in
set_option maxRecDepth 100000 in
theorem twin_nil (w : World) : Calls Tryd.prog 99 #[.agg #[.slice none 0 0, .slice none 0 0, .slice none 0 0, .slice none 0 0]] w fun e w' => e = .returned (.agg #[.slice none 0 0, .slice none 0 0, .slice none 0 0, .slice none 0 0]) ∧ Below w.heap.size w w' := by
  obtain ⟨w1, hw1⟩ : ∃ w1, w1 = (w.alloc (.cells #[.slice none 0 0, .slice none 0 0, .slice none 0 0, .slice none 0 0] 79)).alloc (.cells #[.slice none 0 0, .slice none 0 0, .slice none 0 0, .slice none 0 0] 79) := ⟨_, rfl⟩
  have hix : ∀ (j : Nat), j < 4 → ∀ wr, (Instr.index 77 (.agg #[.slice none 0 0, .slice none 0 0, .slice none 0 0, .slice none 0 0]) (.int .i64 (j : Int))).run Tryd.prog wr = .ok (.slice none 0 0) wr := fun j hj wr => by
    have : j = 0 ∨ j = 1 ∨ j = 2 ∨ j = 3 := by omega
    rcases this with rfl | rfl | rfl | rfl
    · exact index77_0 _ _ _ _ wr
    · exact index77_1 _ _ _ _ wr
    · exact index77_2 _ _ _ _ wr
    · exact index77_3 _ _ _ _ wr
  have HIX := Hush.mk hix
  have HF : Hush (Four w1 w.heap.size (fun _ => nilS) ∧ Four w1 (w.heap.size + 1) (fun _ => nilS) ∧ Below w.heap.size w w1) := ⟨by
    have z1 := size_alloc w (.cells #[.slice none 0 0, .slice none 0 0, .slice none 0 0, .slice none 0 0] 79)
    have e1 := World.alloc_heap_new w (.cells #[.slice none 0 0, .slice none 0 0, .slice none 0 0, .slice none 0 0] 79)
    have e2 := World.alloc_heap_new (w.alloc (.cells #[.slice none 0 0, .slice none 0 0, .slice none 0 0, .slice none 0 0] 79)) (.cells #[.slice none 0 0, .slice none 0 0, .slice none 0 0, .slice none 0 0] 79)
    rw [z1] at e2
    have f1 : Four (w.alloc (.cells #[.slice none 0 0, .slice none 0 0, .slice none 0 0, .slice none 0 0] 79)) w.heap.size (fun _ => nilS) := ⟨79, e1⟩
    rw [hw1]
    exact ⟨f1.below ((Below.refl _ _).alloc (Nat.le_refl _) _), ⟨79, e2⟩, ((Below.refl _ _).alloc (Nat.le_refl _) _).alloc (by omega) _⟩⟩
  clear hix
  go_enter Tryd.func99, Tryd.ntmps99
  go_wp2
  rw [← hw1]
  go_loopw [7] (fun iv wr => ∃ j : Nat, iv = .int .i64 j ∧ j ≤ 4 ∧ Hush (Four wr w.heap.size (fun _ => nilS) ∧ Four wr (w.heap.size + 1) (fun _ => nilS) ∧ Below w.heap.size w wr)) (fun iv _ => 4 - (intOf iv).toNat)
  case atStart => exact ⟨0, by go_num, by omega, HF⟩
  case round =>
    obtain ⟨j, rfl, hj4, HJ⟩ := hrel
    by_cases hlt : j < 4
    · have hltz : (j : Int) < 4 := by omega
      have hj := HIX.out j hlt wr
      have hc := HJ.out.1.cell j hlt
      have hfr := HJ.out.1.frozen j
      have hc2 := HJ.out.2.1.cell j hlt
      have HN : Hush (Four (wr.setCell ⟨w.heap.size, j, none⟩ nilS) w.heap.size (fun _ => nilS) ∧ Four (wr.setCell ⟨w.heap.size, j, none⟩ nilS) (w.heap.size + 1) (fun _ => nilS) ∧ Below w.heap.size w (wr.setCell ⟨w.heap.size, j, none⟩ nilS)) := ⟨by
        have h1 := HJ.out.1.set j hlt nilS
        have e : (fun x => if x = j then nilS else nilS) = fun _ : Nat => nilS := by funext x; split <;> rfl
        rw [e] at h1
        exact ⟨h1, HJ.out.2.1.far (by omega) _, HJ.out.2.2.setCell (p := ⟨w.heap.size, j, none⟩) (Nat.le_refl _) _⟩⟩
      unfold nilS at hc hc2
      clear HJ
      go_wp2_with (go_at_call 130; refine (clone_nil _).mono ?_; rintro e w3 ⟨rfl, rfl⟩)
      go_roundw
      case rel => exact ⟨j + 1, by go_num, by omega, HN⟩
      case measure => simp [intOf]; omega
    · obtain rfl : j = 4 := by omega
      have c0 := HJ.out.1.cell 0 (by omega)
      have c1 := HJ.out.1.cell 1 (by omega)
      have c2 := HJ.out.1.cell 2 (by omega)
      have c3 := HJ.out.1.cell 3 (by omega)
      have d0 := HJ.out.2.1.cell 0 (by omega)
      have d1 := HJ.out.2.1.cell 1 (by omega)
      have d2 := HJ.out.2.1.cell 2 (by omega)
      have d3 := HJ.out.2.1.cell 3 (by omega)
      have g0 := HJ.out.2.1.frozen 0
      have g1 := HJ.out.2.1.frozen 1
      have g2 := HJ.out.2.1.frozen 2
      have g3 := HJ.out.2.1.frozen 3
      have HFF : Hush (Four ((((wr.setCell ⟨w.heap.size + 1, 0, none⟩ nilS).setCell ⟨w.heap.size + 1, 1, none⟩ nilS).setCell ⟨w.heap.size + 1, 2, none⟩ nilS).setCell ⟨w.heap.size + 1, 3, none⟩ nilS) (w.heap.size + 1) (fun _ => nilS) ∧ Below w.heap.size w ((((wr.setCell ⟨w.heap.size + 1, 0, none⟩ nilS).setCell ⟨w.heap.size + 1, 1, none⟩ nilS).setCell ⟨w.heap.size + 1, 2, none⟩ nilS).setCell ⟨w.heap.size + 1, 3, none⟩ nilS)) := ⟨by
        have e : ∀ j, (fun x => if x = j then nilS else nilS) = fun _ : Nat => nilS := fun j => by funext x; split <;> rfl
        have h1 := HJ.out.2.1.set 0 (by omega) nilS
        rw [e] at h1
        have h2 := h1.set 1 (by omega) nilS
        rw [e] at h2
        have h3 := h2.set 2 (by omega) nilS
        rw [e] at h3
        have h4 := h3.set 3 (by omega) nilS
        rw [e] at h4
        exact ⟨h4, (((HJ.out.2.2.setCell (p := ⟨w.heap.size + 1, 0, none⟩) (Nat.le_succ _) _).setCell (p := ⟨w.heap.size + 1, 1, none⟩) (Nat.le_succ _) _).setCell (p := ⟨w.heap.size + 1, 2, none⟩) (Nat.le_succ _) _).setCell (p := ⟨w.heap.size + 1, 3, none⟩) (Nat.le_succ _) _⟩⟩
      unfold nilS at c0 c1 c2 c3 d0 d1 d2 d3
      go_wp2
      have k0 := HFF.out.1.cell 0 (by omega)
      have k1 := HFF.out.1.cell 1 (by omega)
      have k2 := HFF.out.1.cell 2 (by omega)
      have k3 := HFF.out.1.cell 3 (by omega)
      unfold nilS at k0 k1 k2 k3 HFF
      generalize ((((wr.setCell ⟨w.heap.size + 1, 0, none⟩ (.slice none 0 0)).setCell ⟨w.heap.size + 1, 1, none⟩ (.slice none 0 0)).setCell ⟨w.heap.size + 1, 2, none⟩ (.slice none 0 0)).setCell ⟨w.heap.size + 1, 3, none⟩ (.slice none 0 0)) = wF at HFF k0 k1 k2 k3 ⊢
      exact bodyPost_ret (v := .agg #[.slice none 0 0, .slice none 0 0, .slice none 0 0, .slice none 0 0]) (by simp [results, Tryd.results99, go_sem, k0, k1, k2, k3]) rfl ⟨rfl, HFF.out.2⟩
end Go.Proofs.YteilnbnnhocciaaDoor.V

/-! V19 -/
set_option linter.unusedVariables false
set_option linter.unusedSimpArgs false
namespace Go.Proofs.YteilnbnnhocciaaDoor.V
open Go.Proofs Go.RowKit Go.BigFrame Go.Proofs.YteilnbnnhocciaaDoorM Go.Proofs.YteilnbnnhocciaaDoorW.PrintWords Go.Proofs.YteilnbnnhocciaaDoorW.PrintLast Go.Proofs.YteilnbnnhocciaaDoorW.PrintMore Go.Proofs.YteilnbnnhocciaaDoor.KV
set_option maxRecDepth 100000 in
theorem ins_nil (fv : Value) (w : World) : Calls Tryd.prog 161 #[.slice none 0 0, .int .i64 0, .int .i64 0, fv] w fun e w' => e = .returned (.tuple #[]) ∧ w' = w := by
  go_enter Tryd.func161, Tryd.ntmps161
  go_wp2
  go_loopw [8] (fun iv wr => iv = .int .i64 1 ∧ Hush (wr = w)) (fun _ _ => 0)
  case atStart => exact ⟨rfl, ⟨rfl⟩⟩
  case round =>
    obtain ⟨rfl, HW⟩ := hrel
    obtain rfl := HW.out
    go_wp2
    go_end0
    exact ⟨rfl, rfl⟩
set_option maxHeartbeats 4000000 in
set_option maxRecDepth 100000 in
theorem stable_nil (fv : Value) (w : World) : Calls Tryd.prog 134 #[.slice none 0 0, .int .i64 0, fv] w fun e w' => e = .returned (.tuple #[]) ∧ w' = w := by
  go_enter Tryd.func134, Tryd.ntmps134
  go_wp2
  go_loopw [7, 8] (fun av bv wr => av = .int .i64 0 ∧ bv = .int .i64 20 ∧ Hush (wr = w)) (fun _ _ _ => 0)
  case atStart => exact ⟨rfl, rfl, ⟨rfl⟩⟩
  case round =>
    obtain ⟨rfl, rfl, HW⟩ := hrel
    obtain rfl := HW.out
    go_wp2_with (go_at_call 161; refine (ins_nil _ _).mono ?_; rintro e w1 ⟨rfl, rfl⟩)
    go_loopw [6] (fun sv wx => sv = .int .i64 20 ∧ Hush (wx = w1)) (fun _ _ => 0)
    case atStart => exact ⟨rfl, ⟨rfl⟩⟩
    case round =>
      obtain ⟨rfl, HX⟩ := hrel
      obtain rfl := HX.out
      go_wp2
      go_end0
      exact ⟨rfl, by first | rfl | trivial⟩
theorem sort_nil (fv : Value) (w : World) : Calls Tryd.prog 101 #[.slice none 0 0, fv] w fun e w' => e = .returned (.tuple #[]) ∧ w' = w := by
  go_enter Tryd.func101, Tryd.ntmps101
  go_wp2_with fail
  refine (stable_nil _ _).mono ?_
  rintro e w1 ⟨rfl, rfl⟩
  go_wp2
  go_end0
  exact ⟨rfl, rfl⟩
end Go.Proofs.YteilnbnnhocciaaDoor.V

/-! V20 -/
set_option linter.unusedVariables false
set_option linter.unusedSimpArgs false
namespace Go.Proofs.YteilnbnnhocciaaDoor.V
open Go.Proofs Go.Sort Go.Lib Go.RowKit Go.BigFrame Go.Proofs.YteilnbnnhocciaaDoorM Go.Proofs.YteilnbnnhocciaaDoorW.PrintWords Go.Proofs.YteilnbnnhocciaaDoorW.PrintLast Go.Proofs.YteilnbnnhocciaaDoorW.PrintMore Go.Proofs.YteilnbnnhocciaaDoor.KV
def fileA : FileV := ⟨3, 0, 0, ⟨#[97]⟩, ⟨#[98]⟩⟩
theorem wrongA : edit_wrong.val 1 3 ⟨#[97]⟩ ⟨#[98]⟩ = 0 := by decide +kernel
theorem rightA : rightB [[], [fileA], [], []] = true := by decide +kernel
theorem rightN : rightB [[], [], [], []] = true := by decide +kernel
theorem info97' : (Tryd.prog.info? 97).map (fun i => (i.zero, i.size, i.bytes)) = some (some (.agg #[.int .u64 0, .int .u64 0, .int .u64 0, .string ⟨#[]⟩, .string ⟨#[]⟩]), 5, 56) := by kernel_rfl
theorem sort_one (lv : Nat) (blk cap : Nat) (f : FileV) (w : World) (hH : HoldsK encF 5 w blk 0 #[f]) (hblk : blk < w.heap.size) :
    Calls Tryd.prog 101 #[.slice (some ⟨blk, 0, none⟩) 1 cap, .func (.func (fnL lv)) #[] #[]] w fun e w' => e = .returned (.tuple #[]) ∧ Grown w w' := by
  refine (sort_on lv blk 0 cap #[f] w hH hblk (by simp)).mono fun e w' ⟨he, d, ⟨m, os, hw⟩, hp, _⟩ => ⟨he, m, os, ?_⟩
  have hd : d = #[f] := by
    obtain ⟨h1, _, h3⟩ := hp
    have e1 : d.extract 0 (#[f] : Array FileV).size = d := by rw [← h1]; exact Array.extract_size
    rw [e1, Array.extract_size] at h3
    have := List.perm_singleton.1 h3
    exact Array.toList_inj.1 this
  subst hd
  have hs := putRowK_self encF 5 w blk 0 #[f] hH
  rw [hw]
  unfold Go.Proofs.sortWorldK
  have e2 : Go.Sort.putRowK encF 5 (Go.Sort.ahead w m) blk 0 #[f] = w.drewN m := by
    show { Go.Sort.putRowK encF 5 w blk 0 #[f] with drawn := w.drawn + m } = _
    rw [hs]
    rfl
  rw [e2]
theorem five_new (W : World) (f : FileV) (t : TypeId) : ∀ j u, (encF f)[j]? = some u → ((W.alloc (.cells #[.int .u64 f.num, .int .u64 f.size, .int .u64 f.count, .string f.least, .string f.most] t)).drew).cell? ((⟨W.heap.size, 0, none⟩ : Addr).add j) = some u := by
  intro j u hu
  have e := World.alloc_heap_new W (.cells #[.int .u64 f.num, .int .u64 f.size, .int .u64 f.count, .string f.least, .string f.most] t)
  have e' : ((W.alloc (.cells #[.int .u64 f.num, .int .u64 f.size, .int .u64 f.count, .string f.least, .string f.most] t)).drew).heap[W.heap.size]? = _ := e
  match j, hu with
  | 0, hu =>
    obtain rfl := Option.some.inj hu
    show ((W.alloc _).drew).cell? ⟨W.heap.size, 0, none⟩ = _
    simp only [World.cell?, e']
    rfl
  | 1, hu =>
    obtain rfl := Option.some.inj hu
    show ((W.alloc _).drew).cell? ⟨W.heap.size, 1, none⟩ = _
    simp only [World.cell?, e']
    rfl
  | 2, hu =>
    obtain rfl := Option.some.inj hu
    show ((W.alloc _).drew).cell? ⟨W.heap.size, 2, none⟩ = _
    simp only [World.cell?, e']
    rfl
  | 3, hu =>
    obtain rfl := Option.some.inj hu
    show ((W.alloc _).drew).cell? ⟨W.heap.size, 3, none⟩ = _
    simp only [World.cell?, e']
    rfl
  | 4, hu =>
    obtain rfl := Option.some.inj hu
    show ((W.alloc _).drew).cell? ⟨W.heap.size, 4, none⟩ = _
    simp only [World.cell?, e']
    rfl
theorem holds_one {W : World} {base g cap : Nat} {f : FileV} (h : W.ownsRow base 97 5 (.slice (some ⟨g, 0, none⟩) 1 cap) 1 (encF f)) : HoldsK encF 5 W g 0 #[f] ∧ base ≤ g ∧ g < W.heap.size := by
  rcases h.2 with ⟨h1, _⟩ | ⟨g', cap', cur, h1, h2, h3, h4, h5, h6, h7⟩
  · cases h1
  · injection h1 with h1 _ _
    injection h1 with h1
    injection h1 with h1 _ _
    subst h1
    refine ⟨fun j hj => ?_, h2, (Array.getElem?_eq_some_iff.1 h3).1⟩
    have hj5 : j < 5 := by simpa [size_flatK] using hj
    have e : (encF f)[j]? = some ((flatK encF 5 #[f])[j]!) := by
      rw [get_flatK encF 5 #[f] j (by simpa using hj5)]
      have : j = 0 ∨ j = 1 ∨ j = 2 ∨ j = 3 ∨ j = 4 := by omega
      rcases this with rfl | rfl | rfl | rfl | rfl <;> rfl
    rw [← h7, List.getElem?_take_of_lt (by omega)] at e
    refine ⟨?_, by simp [World.frozen?, h3]⟩
    simp only [World.cell?, h3, Nat.zero_add]
    simpa using e
theorem holdsK_keep {W W' : World} {g : Nat} {f : FileV} (h : HoldsK encF 5 W g 0 #[f]) (hb : W'.heap[g]? = W.heap[g]?) : HoldsK encF 5 W' g 0 #[f] := fun j hj =>
  ⟨(World.cell?_of_block (a := ⟨g, 0 + j, none⟩) hb).trans (h j hj).1, (World.frozen?_of_block (a := ⟨g, 0 + j, none⟩) hb).trans (h j hj).2⟩
theorem filesAt_holds {W : World} {g : Nat} {f : FileV} (h : HoldsK encF 5 W g 0 #[f]) : FilesAt W (some ⟨g, 0, none⟩) [f] := fun _ => by
  refine ⟨⟨g, 0, none⟩, rfl, fun i x hx => ?_⟩
  match i, hx with
  | 0, hx =>
    obtain rfl := Option.some.inj hx
    have c : ∀ j, j < 5 → W.cell? ⟨g, 0 + j, none⟩ = some ((encF f)[j]!) := fun j hj => by
      have h1 := (h j (by simpa [size_flatK] using hj)).1
      rw [get_flatK encF 5 #[f] j (by simpa using hj)] at h1
      have : j = 0 ∨ j = 1 ∨ j = 2 ∨ j = 3 ∨ j = 4 := by omega
      rcases this with rfl | rfl | rfl | rfl | rfl <;> exact h1
    exact ⟨c 0 (by omega), c 1 (by omega), c 2 (by omega), c 3 (by omega), c 4 (by omega)⟩
  | i + 1, hx => simp at hx
def lvl1 (g c : Nat) : Nat → Value := fun i => if i = 1 then .slice (some ⟨g, 0, none⟩) 1 c else nilS
structure OneSt (w : World) (b : Nat) (f : Nat → Value) (W : World) : Prop where
  v : Four W w.heap.size f
  r : Four W (w.heap.size + 1 + 1) (fun _ => nilS)
  come : W.cell? ⟨w.heap.size + 1, 3, none⟩ = some (.slice (some ⟨b, 0, none⟩) 1 1)
  below : RowKit.Below w.heap.size w W
  c0 : W.cell? ⟨b, 0, none⟩ = some (.int .i64 1)
  c1 : W.cell? ⟨b, 1, none⟩ = some (.int .u64 3)
  c2 : W.cell? ⟨b, 2, none⟩ = some (.int .u64 0)
  c3 : W.cell? ⟨b, 3, none⟩ = some (.int .u64 0)
  c4 : W.cell? ⟨b, 4, none⟩ = some (.string ⟨#[97]⟩)
  c5 : W.cell? ⟨b, 5, none⟩ = some (.string ⟨#[98]⟩)
theorem OneSt.step {w : World} {b : Nat} {f : Nat → Value} {W W' : World} (h : OneSt w b f W) (hb : RowKit.Below W.heap.size W W') : OneSt w b f W' :=
  have up : ∀ p v, W.cell? p = some v → W'.cell? p = some v := fun p v e => (hb.cell (World.block_lt_of_cell? W p e)).trans e
  ⟨h.v.below hb, h.r.below hb, up _ _ h.come, h.below.trans (hb.mono h.below.size), up _ _ h.c0, up _ _ h.c1, up _ _ h.c2, up _ _ h.c3, up _ _ h.c4, up _ _ h.c5⟩
theorem OneSt.come1 {w : World} {b : Nat} {W : World} (h : OneSt w b (fun _ => nilS) W) (hb : b < w.heap.size) {g c : Nat} (hg : HoldsK encF 5 W g 0 #[fileA]) (hg1 : w.heap.size ≤ g) (hg2 : g < W.heap.size) (hne : g ≠ w.heap.size) :
    OneSt w b (lvl1 g c) (W.setCell ⟨w.heap.size, 1, none⟩ (.slice (some ⟨g, 0, none⟩) 1 c)) ∧ HoldsK encF 5 (W.setCell ⟨w.heap.size, 1, none⟩ (.slice (some ⟨g, 0, none⟩) 1 c)) g 0 #[fileA] ∧ w.heap.size ≤ g ∧ g < (W.setCell ⟨w.heap.size, 1, none⟩ (.slice (some ⟨g, 0, none⟩) 1 c)).heap.size := by
  have far : ∀ k j, k ≠ w.heap.size → (W.setCell ⟨w.heap.size, 1, none⟩ (.slice (some ⟨g, 0, none⟩) 1 c)).cell? ⟨k, j, none⟩ = W.cell? ⟨k, j, none⟩ := fun k j hk => World.cell?_of_block (Below.heap_setCell W ⟨w.heap.size, 1, none⟩ _ k hk)
  have hbb : b ≠ w.heap.size := by omega
  have hv := h.v.set 1 (by omega) (.slice (some ⟨g, 0, none⟩) 1 c)
  refine ⟨⟨hv, h.r.far (by omega) _, by rw [far _ _ (by omega)]; exact h.come, h.below.setCell (p := ⟨w.heap.size, 1, none⟩) (Nat.le_refl _) _, by rw [far _ _ hbb]; exact h.c0, by rw [far _ _ hbb]; exact h.c1, by rw [far _ _ hbb]; exact h.c2, by rw [far _ _ hbb]; exact h.c3, by rw [far _ _ hbb]; exact h.c4, by rw [far _ _ hbb]; exact h.c5⟩, holdsK_keep hg (Below.heap_setCell W ⟨w.heap.size, 1, none⟩ _ g hne), hg1, by rw [World.size_setCell]; exact hg2⟩
set_option maxHeartbeats 8000000 in
set_option maxRecDepth 100000 in
theorem apply_one (b : Nat) (w : World) (h0 : w.cell? ⟨b, 0, none⟩ = some (.int .i64 1)) (h1 : w.cell? ⟨b, 1, none⟩ = some (.int .u64 3)) (h2 : w.cell? ⟨b, 2, none⟩ = some (.int .u64 0)) (h3 : w.cell? ⟨b, 3, none⟩ = some (.int .u64 0)) (h4 : w.cell? ⟨b, 4, none⟩ = some (.string ⟨#[97]⟩)) (h5 : w.cell? ⟨b, 5, none⟩ = some (.string ⟨#[98]⟩)) :
    Calls Tryd.prog 47 #[.agg #[.slice none 0 0, .slice none 0 0, .slice none 0 0, .slice none 0 0], .agg #[.int .u64 0, .int .u64 0, .int .u64 0, .slice (some ⟨b, 0, none⟩) 1 1, .slice none 0 0]] w fun e w' =>
      (∃ A c, e = .returned (.tuple #[.agg #[.slice none 0 0, .slice A 1 c, .slice none 0 0, .slice none 0 0], .int .i64 0]) ∧ FilesAt w' A [fileA]) ∧ Below w.heap.size w w' := by
  obtain ⟨i0, hi, hz0, hz1, hz2⟩ := info_parts info97'
  have HBB : Hush (b < w.heap.size) := ⟨World.block_lt_of_cell? w ⟨b, 0, none⟩ h0⟩
  have mixed : Tryd.prog.follows .mixedOrders = true := by kernel_rfl
  have H6 := Hush.mk (And.intro h0 (And.intro h1 (And.intro h2 (And.intro h3 (And.intro h4 h5)))))
  clear h0 h1 h2 h3 h4 h5
  obtain ⟨w1, hw1⟩ : ∃ w1, w1 = ((w.alloc (.cells #[.slice none 0 0, .slice none 0 0, .slice none 0 0, .slice none 0 0] 79)).alloc (.cells #[.int .u64 0, .int .u64 0, .int .u64 0, .slice (some ⟨b, 0, none⟩) 1 1, .slice none 0 0] 26)).alloc (.cells #[.slice none 0 0, .slice none 0 0, .slice none 0 0, .slice none 0 0] 79) := ⟨_, rfl⟩
  have HW1 : Hush (Four w1 w.heap.size (fun _ => nilS) ∧ Four w1 (w.heap.size + 1 + 1) (fun _ => nilS) ∧ (w1.cell? ⟨w.heap.size + 1, 0, none⟩ = some (.int .u64 0) ∧ w1.cell? ⟨w.heap.size + 1, 1, none⟩ = some (.int .u64 0) ∧ w1.cell? ⟨w.heap.size + 1, 2, none⟩ = some (.int .u64 0) ∧ w1.cell? ⟨w.heap.size + 1, 3, none⟩ = some (.slice (some ⟨b, 0, none⟩) 1 1) ∧ w1.cell? ⟨w.heap.size + 1, 4, none⟩ = some (.slice none 0 0)) ∧ Below w.heap.size w w1 ∧ w1.heap.size = w.heap.size + 3) := ⟨by
    have z1 := size_alloc w (.cells #[.slice none 0 0, .slice none 0 0, .slice none 0 0, .slice none 0 0] 79)
    have z2 := size_alloc (w.alloc (.cells #[.slice none 0 0, .slice none 0 0, .slice none 0 0, .slice none 0 0] 79)) (.cells #[.int .u64 0, .int .u64 0, .int .u64 0, .slice (some ⟨b, 0, none⟩) 1 1, .slice none 0 0] 26)
    have z3 := size_alloc ((w.alloc (.cells #[.slice none 0 0, .slice none 0 0, .slice none 0 0, .slice none 0 0] 79)).alloc (.cells #[.int .u64 0, .int .u64 0, .int .u64 0, .slice (some ⟨b, 0, none⟩) 1 1, .slice none 0 0] 26)) (.cells #[.slice none 0 0, .slice none 0 0, .slice none 0 0, .slice none 0 0] 79)
    have e1 := World.alloc_heap_new w (.cells #[.slice none 0 0, .slice none 0 0, .slice none 0 0, .slice none 0 0] 79)
    have e2 := World.alloc_heap_new (w.alloc (.cells #[.slice none 0 0, .slice none 0 0, .slice none 0 0, .slice none 0 0] 79)) (.cells #[.int .u64 0, .int .u64 0, .int .u64 0, .slice (some ⟨b, 0, none⟩) 1 1, .slice none 0 0] 26)
    have e3 := World.alloc_heap_new ((w.alloc (.cells #[.slice none 0 0, .slice none 0 0, .slice none 0 0, .slice none 0 0] 79)).alloc (.cells #[.int .u64 0, .int .u64 0, .int .u64 0, .slice (some ⟨b, 0, none⟩) 1 1, .slice none 0 0] 26)) (.cells #[.slice none 0 0, .slice none 0 0, .slice none 0 0, .slice none 0 0] 79)
    rw [z1] at e2
    rw [z2, z1] at e3
    have f1 : Four (w.alloc (.cells #[.slice none 0 0, .slice none 0 0, .slice none 0 0, .slice none 0 0] 79)) w.heap.size (fun _ => nilS) := ⟨79, e1⟩
    have b2 := (Below.refl (w.alloc (.cells #[.slice none 0 0, .slice none 0 0, .slice none 0 0, .slice none 0 0] 79)).heap.size (w.alloc (.cells #[.slice none 0 0, .slice none 0 0, .slice none 0 0, .slice none 0 0] 79))).alloc (Nat.le_refl _) (.cells #[.int .u64 0, .int .u64 0, .int .u64 0, .slice (some ⟨b, 0, none⟩) 1 1, .slice none 0 0] 26)
    have b3 := (Below.refl ((w.alloc (.cells #[.slice none 0 0, .slice none 0 0, .slice none 0 0, .slice none 0 0] 79)).alloc (.cells #[.int .u64 0, .int .u64 0, .int .u64 0, .slice (some ⟨b, 0, none⟩) 1 1, .slice none 0 0] 26)).heap.size _).alloc (Nat.le_refl _) (.cells #[.slice none 0 0, .slice none 0 0, .slice none 0 0, .slice none 0 0] 79)
    have up : ∀ i v, (#[Value.int .u64 0, .int .u64 0, .int .u64 0, .slice (some ⟨b, 0, none⟩) 1 1, .slice none 0 0] : Array Value)[i]? = some v → w1.cell? ⟨w.heap.size + 1, i, none⟩ = some v := fun i v h => by
      have e : ((w.alloc (.cells #[.slice none 0 0, .slice none 0 0, .slice none 0 0, .slice none 0 0] 79)).alloc (.cells #[.int .u64 0, .int .u64 0, .int .u64 0, .slice (some ⟨b, 0, none⟩) 1 1, .slice none 0 0] 26)).cell? ⟨w.heap.size + 1, i, none⟩ = some v := by
        simp only [World.cell?, e2]
        exact h
      rw [hw1]
      exact (b3.cell (World.block_lt_of_cell? _ _ e)).trans e
    refine ⟨by rw [hw1]; exact (f1.below b2).below b3, by rw [hw1]; exact ⟨79, e3⟩, ⟨up 0 _ rfl, up 1 _ rfl, up 2 _ rfl, up 3 _ rfl, up 4 _ rfl⟩, by rw [hw1]; exact (((Below.refl _ _).alloc (Nat.le_refl _) _).alloc (by omega) _).alloc (by omega) _, by rw [hw1]; omega⟩⟩
  have HC : Hush (Calls Tryd.prog 20 #[.agg #[.int .u64 0, .int .u64 0, .int .u64 0, .slice (some ⟨b, 0, none⟩) 1 1, .slice none 0 0]] w1 fun e w' => e = .returned (.int .i64 0) ∧ Below w1.heap.size w1 w') := ⟨by
    obtain ⟨h0, h1, h2, h3, h4, h5⟩ := H6.out
    have up : ∀ p v, w.cell? p = some v → w1.cell? p = some v := fun p v e => (HW1.out.2.2.2.1.cell (World.block_lt_of_cell? w p e)).trans e
    have := check_one ⟨1, ⟨3, 0, 0, ⟨#[97]⟩, ⟨#[98]⟩⟩⟩ b w1 (up _ _ h0) (up _ _ h1) (up _ _ h2) (up _ _ h3) (up _ _ h4) (up _ _ h5)
    rwa [show edit_wrong.val (S107.mk 1 ⟨3, 0, 0, ⟨#[97]⟩, ⟨#[98]⟩⟩).f0 (S107.mk 1 ⟨3, 0, 0, ⟨#[97]⟩, ⟨#[98]⟩⟩).f1.f0 (S107.mk 1 ⟨3, 0, 0, ⟨#[97]⟩, ⟨#[98]⟩⟩).f1.f3 (S107.mk 1 ⟨3, 0, 0, ⟨#[97]⟩, ⟨#[98]⟩⟩).f1.f4 = 0 from wrongA] at this⟩
  have HS : Hush (∀ W, RowKit.Below w1.heap.size w1 W → Four W w.heap.size (fun _ => nilS) ∧ Four W (w.heap.size + 1 + 1) (fun _ => nilS) ∧ W.cell? ⟨w.heap.size + 1, 3, none⟩ = some (.slice (some ⟨b, 0, none⟩) 1 1) ∧ W.cell? ⟨w.heap.size + 1, 4, none⟩ = some (.slice none 0 0) ∧ RowKit.Below w.heap.size w W ∧ (W.cell? ⟨b, 0, none⟩ = some (.int .i64 1) ∧ W.cell? ⟨b, 1, none⟩ = some (.int .u64 3) ∧ W.cell? ⟨b, 2, none⟩ = some (.int .u64 0) ∧ W.cell? ⟨b, 3, none⟩ = some (.int .u64 0) ∧ W.cell? ⟨b, 4, none⟩ = some (.string ⟨#[97]⟩) ∧ W.cell? ⟨b, 5, none⟩ = some (.string ⟨#[98]⟩))) := ⟨fun W hW => by
    obtain ⟨f1, f2, ⟨c0, c1, c2, c3, c4⟩, hb, hz⟩ := HW1.out
    obtain ⟨h0, h1, h2, h3, h4, h5⟩ := H6.out
    have hbw : RowKit.Below w.heap.size w W := hb.trans (hW.mono hb.size)
    have up : ∀ p v, w.cell? p = some v → W.cell? p = some v := fun p v e => (hbw.cell (World.block_lt_of_cell? w p e)).trans e
    have up1 : ∀ p v, w1.cell? p = some v → W.cell? p = some v := fun p v e => (hW.cell (World.block_lt_of_cell? w1 p e)).trans e
    exact ⟨f1.below hW, f2.below hW, up1 _ _ c3, up1 _ _ c4, hbw, up _ _ h0, up _ _ h1, up _ _ h2, up _ _ h3, up _ _ h4, up _ _ h5⟩⟩
  go_enter Tryd.func47, Tryd.ntmps47
  go_wp2_with (first
    | (go_at_call 20; rw [← hw1]; refine HC.out.mono ?_; rintro e w2 ⟨rfl, hb2⟩; have HB2 := Hush.mk hb2; obtain ⟨f1, _⟩ := HS.out w2 hb2; have a0 := f1.cell 0 (by omega); have a1 := f1.cell 1 (by omega); have a2 := f1.cell 2 (by omega); have a3 := f1.cell 3 (by omega); unfold nilS at a0 a1 a2 a3; clear hb2 f1)
    | (go_at_call 99; refine (twin_nil _).mono ?_; rintro e w3 ⟨rfl, hb3⟩; have HB3 := Hush.mk (HB2.out.trans (hb3.mono HB2.out.size)); obtain ⟨f1, _⟩ := HS.out w3 HB3.out; have a0 := f1.cell 0 (by omega); have a1 := f1.cell 1 (by omega); have a2 := f1.cell 2 (by omega); have a3 := f1.cell 3 (by omega); have a4 := f1.frozen 0; have a5 := f1.frozen 1; have a6 := f1.frozen 2; have a7 := f1.frozen 3; have p4 := (HS.out w3 HB3.out).2.2.2.1; have p3 := (HS.out w3 HB3.out).2.2.1; unfold nilS at a0 a1 a2 a3; clear hb3 f1))
  have H4 : Hush (OneSt w b (fun _ => nilS) ((((w3.setCell ⟨w.heap.size, 0, none⟩ (.slice none 0 0)).setCell ⟨w.heap.size, 1, none⟩ (.slice none 0 0)).setCell ⟨w.heap.size, 2, none⟩ (.slice none 0 0)).setCell ⟨w.heap.size, 3, none⟩ (.slice none 0 0))) := ⟨by
    obtain ⟨f1, f2, g3, g4, hb, e0, e1, e2, e3, e4, e5⟩ := HS.out w3 HB3.out
    have e : ∀ j, (fun x => if x = j then nilS else nilS) = fun _ : Nat => nilS := fun j => by funext x; split <;> rfl
    have h1 := f1.set 0 (by omega) nilS
    rw [e] at h1
    have h2 := h1.set 1 (by omega) nilS
    rw [e] at h2
    have h3 := h2.set 2 (by omega) nilS
    rw [e] at h3
    have h4 := h3.set 3 (by omega) nilS
    rw [e] at h4
    have bb := World.block_lt_of_cell? w ⟨b, 0, none⟩ H6.out.1
    have far : ∀ (W : World) (k i j : Nat) (u : Value), k ≠ w.heap.size → (W.setCell ⟨w.heap.size, i, none⟩ u).cell? ⟨k, j, none⟩ = W.cell? ⟨k, j, none⟩ := fun W k i j u hk => World.cell?_of_block (Below.heap_setCell W ⟨w.heap.size, i, none⟩ u k hk)
    have far4 : ∀ k j, k ≠ w.heap.size → ((((w3.setCell ⟨w.heap.size, 0, none⟩ (.slice none 0 0)).setCell ⟨w.heap.size, 1, none⟩ (.slice none 0 0)).setCell ⟨w.heap.size, 2, none⟩ (.slice none 0 0)).setCell ⟨w.heap.size, 3, none⟩ (.slice none 0 0)).cell? ⟨k, j, none⟩ = w3.cell? ⟨k, j, none⟩ := fun k j hk => by
      rw [far _ _ _ _ _ hk, far _ _ _ _ _ hk, far _ _ _ _ _ hk, far _ _ _ _ _ hk]
    have hbb : b ≠ w.heap.size := by have : b < w.heap.size := bb; omega
    refine ⟨h4, (((f2.far (by omega) _).far (by omega) _).far (by omega) _).far (by omega) _, by rw [far4 _ _ (by omega)]; exact g3, (((hb.setCell (p := ⟨w.heap.size, 0, none⟩) (Nat.le_refl _) _).setCell (p := ⟨w.heap.size, 1, none⟩) (Nat.le_refl _) _).setCell (p := ⟨w.heap.size, 2, none⟩) (Nat.le_refl _) _).setCell (p := ⟨w.heap.size, 3, none⟩) (Nat.le_refl _) _,
      by rw [far4 _ _ hbb]; exact e0, by rw [far4 _ _ hbb]; exact e1, by rw [far4 _ _ hbb]; exact e2, by rw [far4 _ _ hbb]; exact e3, by rw [far4 _ _ hbb]; exact e4, by rw [far4 _ _ hbb]; exact e5⟩⟩
  generalize ((((w3.setCell ⟨w.heap.size, 0, none⟩ (.slice none 0 0)).setCell ⟨w.heap.size, 1, none⟩ (.slice none 0 0)).setCell ⟨w.heap.size, 2, none⟩ (.slice none 0 0)).setCell ⟨w.heap.size, 3, none⟩ (.slice none 0 0)) = w4 at H4 ⊢
  clear a0 a1 a2 a3 a4 a5 a6 a7 p3 p4
  go_loopw [23] (fun iv wr => iv = .int .i64 0 ∧ Hush (wr = w4)) (fun _ _ => 0)
  case atStart => exact ⟨rfl, ⟨rfl⟩⟩
  case round =>
    obtain ⟨rfl, HX⟩ := hrel
    obtain rfl := HX.out
    have cc := H4.out.come
    go_wp2
    clear cc
    go_loopw [35] (fun iv wx => (iv = .int .i64 0 ∧ Hush (OneSt w b (fun _ => nilS) wx)) ∨ (iv = .int .i64 1 ∧ Hush (∃ g c, OneSt w b (lvl1 g c) wx ∧ HoldsK encF 5 wx g 0 #[fileA] ∧ w.heap.size ≤ g ∧ g < wx.heap.size))) (fun iv _ => 1 - (intOf iv).toNat)
    case atStart => exact .inl ⟨rfl, H4⟩
    case round =>
      rcases hrel with ⟨rfl, HO⟩ | ⟨rfl, HO⟩
      · have c0 := HO.out.c0
        have c1 := HO.out.c1
        have c2 := HO.out.c2
        have c3 := HO.out.c3
        have c4 := HO.out.c4
        have c5 := HO.out.c5
        have v1 := HO.out.v.cell 1 (by omega)
        have v2 := HO.out.v.frozen 1
        unfold nilS at v1
        go_wp2_with fail
        have HW5 : Hush (∀ W, RowKit.Below wr.heap.size (wr.alloc (.cells #[.int .i64 1, .int .u64 3, .int .u64 0, .int .u64 0, .string ⟨#[97]⟩, .string ⟨#[98]⟩] 107)) W → OneSt w b (fun _ => nilS) W) := ⟨fun W hW => HO.out.step (((RowKit.Below.refl _ _).alloc (Nat.le_refl _) _).trans hW)⟩
        obtain ⟨ab, hab⟩ : ∃ ab, ab = wr.heap.size := ⟨_, rfl⟩
        obtain ⟨w5, hw5⟩ : ∃ w5, w5 = wr.alloc (.cells #[.int .i64 1, .int .u64 3, .int .u64 0, .int .u64 0, .string ⟨#[97]⟩, .string ⟨#[98]⟩] 107) := ⟨_, rfl⟩
        have HA5 : Hush (∀ W, RowKit.Below w5.heap.size w5 W → W.cell? ⟨ab, 0, none⟩ = some (.int .i64 1) ∧ (W.cell? ⟨ab, 1, none⟩ = some (.int .u64 3) ∧ W.cell? ⟨ab, 2, none⟩ = some (.int .u64 0) ∧ W.cell? ⟨ab, 3, none⟩ = some (.int .u64 0) ∧ W.cell? ⟨ab, 4, none⟩ = some (.string ⟨#[97]⟩) ∧ W.cell? ⟨ab, 5, none⟩ = some (.string ⟨#[98]⟩)) ∧ W.cell? ⟨w.heap.size, 1, none⟩ = some (.slice none 0 0) ∧ W.frozen? ⟨w.heap.size, 1, none⟩ = false) := ⟨fun W hW => by
          have six : ∀ i v, (#[Value.int .i64 1, .int .u64 3, .int .u64 0, .int .u64 0, .string ⟨#[97]⟩, .string ⟨#[98]⟩] : Array Value)[i]? = some v → W.cell? ⟨ab, i, none⟩ = some v := fun i v h => by
            have e := six_at wr _ _ _ _ _ _ 107 ab hab i v h
            rw [← hw5] at e
            exact (hW.cell (World.block_lt_of_cell? _ _ e)).trans e
          have hv := (HW5.out W (by rw [← hw5]; exact hW.mono (by rw [hw5, size_alloc]; omega))).v
          exact ⟨six 0 _ rfl, ⟨six 1 _ rfl, six 2 _ rfl, six 3 _ rfl, six 4 _ rfl, six 5 _ rfl⟩, hv.cell 1 (by omega), hv.frozen 1⟩⟩
        have HZ5 : Hush (w.heap.size < w5.heap.size ∧ ab < w5.heap.size) := ⟨by rw [hw5, size_alloc, hab]; have := HO.out.v.lt; omega⟩
        rw [← hw5, ← hab]
        have HW5' : Hush (∀ W, RowKit.Below w5.heap.size w5 W → OneSt w b (fun _ => nilS) W) := ⟨fun W hW => HW5.out W (by rw [← hw5]; exact hW.mono (by rw [hw5, size_alloc]; omega))⟩
        clear c0 c1 c2 c3 c4 c5 v1 v2 HW5 hw5 hab HO
        obtain ⟨y0, ⟨y1, y2, y3, y4, y5⟩, y6, y7⟩ := HA5.out w5.drew (RowKit.Below.refl _ _).drew
        have z0 := fun o => (HA5.out (w5.alloc o) ((RowKit.Below.refl _ _).alloc (Nat.le_refl _) o)).1
        have z6 := fun o => (HA5.out (w5.alloc o) ((RowKit.Below.refl _ _).alloc (Nat.le_refl _) o)).2.2.1
        have z1 := fun o => (HA5.out (w5.alloc o) ((RowKit.Below.refl _ _).alloc (Nat.le_refl _) o)).2.1.1
        have z2 := fun o => (HA5.out (w5.alloc o) ((RowKit.Below.refl _ _).alloc (Nat.le_refl _) o)).2.1.2.1
        have z3 := fun o => (HA5.out (w5.alloc o) ((RowKit.Below.refl _ _).alloc (Nat.le_refl _) o)).2.1.2.2.1
        have z4 := fun o => (HA5.out (w5.alloc o) ((RowKit.Below.refl _ _).alloc (Nat.le_refl _) o)).2.1.2.2.2.1
        have z5 := fun o => (HA5.out (w5.alloc o) ((RowKit.Below.refl _ _).alloc (Nat.le_refl _) o)).2.1.2.2.2.2
        go_region_law (first
          | (refine step_append_lies (w := _) rfl _ _ 76 rfl w.heap.size 97 i0 (.agg #[.int .u64 0, .int .u64 0, .int .u64 0, .string ⟨#[]⟩, .string ⟨#[]⟩]) 5 56 Tryd.underlying76 hi hz0 hz1 hz2 rfl (by decide) (.slice none 0 0) 0 [] rfl ⟨rfl, .inl ⟨rfl, rfl⟩⟩ ⟨_, 0, none⟩ 1 1 (encF fileA) rfl rfl (five_new w5 fileA 97) (encF_one fileA) (by decide) (by unfold maxLen; omega) (by omega) (by show w.heap.size ≤ (w5.alloc _).heap.size; rw [size_alloc]; have := HZ5.out.1; omega) _ rfl ?_; intro g cap w9 hown hg9 hat hlt9; have hb9 : RowKit.Below w5.heap.size w5 w9 := (((RowKit.Below.refl _ _).alloc (Nat.le_refl _) _).drew).grown hg9 (by show w5.heap.size ≤ (w5.alloc _).heap.size; rw [size_alloc]; omega) (fun k hk => by cases hk); have HOWN := Hush.mk (holds_one hown); have H9 := Hush.mk (HW5'.out w9 hb9); obtain ⟨x0, _, x6, x7⟩ := HA5.out w9 hb9; have HGN : Hush (g ≠ w.heap.size) := ⟨by rcases hat with h | h; (cases h); (have h' : (w5.alloc _).heap.size = g := h.symm; rw [size_alloc] at h'; have := HZ5.out.1; omega)⟩; clear hown hb9 hg9 hat hlt9))
        all_goals
          have HNX := Hush.mk (H9.out.come1 (c := cap) HBB.out HOWN.out.1 HOWN.out.2.1 HOWN.out.2.2 HGN.out)
          go_wp2
          go_roundw
          case rel => exact .inr ⟨by go_num, ⟨g, cap, HNX.out⟩⟩
          case measure => simp [intOf]
      · obtain ⟨g, c, hst, hh, hg1, hg2⟩ := HO.out
        have H8 : Hush (OneSt w b (lvl1 g c) wr ∧ HoldsK encF 5 wr g 0 #[fileA] ∧ w.heap.size ≤ g ∧ g < wr.heap.size) := ⟨⟨hst, hh, hg1, hg2⟩⟩
        clear HO hst hh hg1 hg2
        go_wp2
        go_loopw [53] (fun iv wx => ∃ j : Nat, iv = .int .i64 j ∧ j ≤ 4 ∧ Hush (OneSt w b (lvl1 g c) wx ∧ HoldsK encF 5 wx g 0 #[fileA] ∧ w.heap.size ≤ g ∧ g < wx.heap.size)) (fun iv _ => 4 - (intOf iv).toNat)
        case atStart => exact ⟨0, by go_num, by omega, H8⟩
        case round =>
          obtain ⟨j, rfl, hj4, HJ⟩ := hrel
          have HST : Hush (∀ w', RowKit.Below wr.heap.size wr w' → OneSt w b (lvl1 g c) w' ∧ HoldsK encF 5 w' g 0 #[fileA] ∧ w.heap.size ≤ g ∧ g < w'.heap.size) := ⟨fun w' hb => by
            obtain ⟨k1, k2, k3, k4⟩ := HJ.out
            exact ⟨k1.step hb, holdsK_keep k2 (hb.block g k4), k3, Nat.lt_of_lt_of_le k4 hb.size⟩⟩
          by_cases hlt : j < 4
          · have hltz : (j : Int) < 4 := by omega
            have HOR : Hush (∀ W, Calls Tryd.prog 102 #[.int .i64 j] W fun e w' => e = .returned (.func (.func (fnL j)) #[] #[]) ∧ w' = W) := ⟨fun W => by
              have := order_on j W
              rwa [show (if ((j : Nat) : Int) = 0 then 135 else 137) = fnL j from by unfold fnL; by_cases h : j = 0 <;> simp [h]] at this⟩
            obtain ⟨sv, hsv⟩ : ∃ sv, sv = lvl1 g c j := ⟨_, rfl⟩
            have v1 := HJ.out.1.v.cell j hlt
            rw [← hsv] at v1
            have HSO : Hush (∀ W, RowKit.Below wr.heap.size wr W → Calls Tryd.prog 101 #[sv, .func (.func (fnL j)) #[] #[]] W fun e w' => e = .returned (.tuple #[]) ∧ RowKit.Below W.heap.size W w') := ⟨fun W hW => by
              rw [hsv]
              unfold lvl1
              split
              · exact (sort_one j g c fileA W (HST.out W hW).2.1 (HST.out W hW).2.2.2).mono fun e w' ⟨h1, h2⟩ => ⟨h1, h2.below⟩
              · exact (sort_nil _ W).mono fun e w' ⟨h1, h2⟩ => ⟨h1, by rw [h2]; exact RowKit.Below.refl _ _⟩⟩
            have HSL : Hush (sv = lvl1 g c j) := ⟨hsv⟩
            clear hsv HJ
            have v2 := below_cell v1
            clear v1
            go_wp2_with fail
            refine wp_region_quiet_below mixed (by kernel_rfl) ?_
            repeat (go_big_quiet_step (first | (go_at_call 102; exact Calls.below_of ((HOR.out _).mono fun e w' ⟨h1, h2⟩ => ⟨h1, by rw [h2]; exact RowKit.Below.refl _ _⟩)) | (go_at_call 101; exact Calls.below_of (HSO.out _ (BelowBy.h _)))))
            refine wpQuiet_nil ?_
            intro _ hw'
            obtain ⟨p, hw''⟩ := hw'
            subst hw''
            have H10 := Hush.mk (HST.out p.wr p.h)
            clear v2 HST
            go_wp2
            go_roundw
            case rel => exact ⟨j + 1, by go_num, by omega, H10⟩
            case measure => simp [intOf]; omega
          · obtain rfl : j = 4 := by omega
            have v0 := HJ.out.1.v.cell 0 (by omega)
            have v1 := HJ.out.1.v.cell 1 (by omega)
            have v2 := HJ.out.1.v.cell 2 (by omega)
            have v3 := HJ.out.1.v.cell 3 (by omega)
            rw [lvl1, if_neg (by omega)] at v0 v2 v3
            rw [lvl1, if_pos rfl] at v1
            unfold nilS at v0 v2 v3
            have HR : Hush (Calls Tryd.prog 44 #[.agg #[.slice none 0 0, .slice (some ⟨g, 0, none⟩) 1 c, .slice none 0 0, .slice none 0 0]] wr fun e w' => e = .returned (.bool true) ∧ RowKit.Below wr.heap.size wr w') := ⟨by
              have nl : LevelIn wr none [] := ⟨fun h => by simp at h, by simp, by simp⟩
              have := right_on none (some ⟨g, 0, none⟩) none none [] [fileA] [] [] 0 c 0 0 wr nl ⟨filesAt_holds HJ.out.2.1, by simp, fun f hf => by simp at hf; subst hf; rfl⟩ nl nl
              rwa [rightA] at this⟩
            go_wp2_with (go_at_call 44; refine HR.out.mono ?_; rintro e w11 ⟨rfl, hb11⟩; obtain ⟨u1, u2, u3, u4⟩ := HST.out w11 hb11; have t0 := u1.v.cell 0 (by omega); have t1 := u1.v.cell 1 (by omega); have t2 := u1.v.cell 2 (by omega); have t3 := u1.v.cell 3 (by omega); rw [lvl1, if_neg (by omega)] at t0 t2 t3; rw [lvl1, if_pos rfl] at t1; unfold nilS at t0 t2 t3; have r0 := u1.r.cell 0 (by omega); have r1 := u1.r.cell 1 (by omega); have r2 := u1.r.cell 2 (by omega); have r3 := u1.r.cell 3 (by omega); have f0 := u1.r.frozen 0; have f1 := u1.r.frozen 1; have f2 := u1.r.frozen 2; have f3 := u1.r.frozen 3; unfold nilS at r0 r1 r2 r3; have HU := Hush.mk (And.intro u1 (And.intro u2 (And.intro u3 u4))); clear u1 u2 u3 u4 hb11)
            have HFF : Hush (∀ wF, wF = ((((w11.setCell ⟨w.heap.size + 1 + 1, 0, none⟩ nilS).setCell ⟨w.heap.size + 1 + 1, 1, none⟩ (.slice (some ⟨g, 0, none⟩) 1 c)).setCell ⟨w.heap.size + 1 + 1, 2, none⟩ nilS).setCell ⟨w.heap.size + 1 + 1, 3, none⟩ nilS) → (wF.cell? ⟨w.heap.size + 1 + 1, 0, none⟩ = some (.slice none 0 0) ∧ wF.cell? ⟨w.heap.size + 1 + 1, 1, none⟩ = some (.slice (some ⟨g, 0, none⟩) 1 c) ∧ wF.cell? ⟨w.heap.size + 1 + 1, 2, none⟩ = some (.slice none 0 0) ∧ wF.cell? ⟨w.heap.size + 1 + 1, 3, none⟩ = some (.slice none 0 0)) ∧ FilesAt wF (some ⟨g, 0, none⟩) [fileA] ∧ RowKit.Below w.heap.size w wF) := ⟨fun wF hF => by
              obtain ⟨u1, u2, u3, u4⟩ := HU.out
              have q0 := u1.r
              have q1 := q0.set 0 (by omega) nilS
              have q2 := q1.set 1 (by omega) (.slice (some ⟨g, 0, none⟩) 1 c)
              have q3 := q2.set 2 (by omega) nilS
              have q4 := q3.set 3 (by omega) nilS
              have sl : ∀ (v : Value) (f : Nat → Value) (k : Nat), (∃ A n c, v = Value.slice A n c) → (∀ i, i < 4 → ∃ A n c, f i = Value.slice A n c) → ∀ i, i < 4 → ∃ A n c, (if i = k then v else f i) = Value.slice A n c := fun v f k hv hf i hi => by
                split
                · exact hv
                · exact hf i hi
              have s0 : ∀ i, i < 4 → ∃ A n c, (fun _ : Nat => nilS) i = Value.slice A n c := fun i _ => ⟨none, 0, 0, rfl⟩
              have nl : ∃ A n c, nilS = Value.slice A n c := ⟨none, 0, 0, rfl⟩
              have s1 := sl nilS _ 0 nl s0
              have s2 := sl (.slice (some ⟨g, 0, none⟩) 1 c) _ 1 ⟨_, _, _, rfl⟩ s1
              have s3 := sl nilS _ 2 nl s2
              have f0 := filesAt_holds u2
              have f1 := filesAt_far f0 (a := ⟨w.heap.size + 1 + 1, 0, none⟩) rfl q0 s0 nilS
              have f2 := filesAt_far f1 (a := ⟨w.heap.size + 1 + 1, 1, none⟩) rfl q1 s1 (.slice (some ⟨g, 0, none⟩) 1 c)
              have f3 := filesAt_far f2 (a := ⟨w.heap.size + 1 + 1, 2, none⟩) rfl q2 s2 nilS
              have f4 := filesAt_far f3 (a := ⟨w.heap.size + 1 + 1, 3, none⟩) rfl q3 s3 nilS
              rw [hF]
              exact ⟨⟨q4.cell 0 (by omega), q4.cell 1 (by omega), q4.cell 2 (by omega), q4.cell 3 (by omega)⟩, f4, (((u1.below.setCell (p := ⟨w.heap.size + 1 + 1, 0, none⟩) (by show _ ≤ _ + 1 + 1; omega) _).setCell (p := ⟨w.heap.size + 1 + 1, 1, none⟩) (by show _ ≤ _ + 1 + 1; omega) _).setCell (p := ⟨w.heap.size + 1 + 1, 2, none⟩) (by show _ ≤ _ + 1 + 1; omega) _).setCell (p := ⟨w.heap.size + 1 + 1, 3, none⟩) (by show _ ≤ _ + 1 + 1; omega) _⟩⟩
            unfold nilS at HFF
            obtain ⟨wF, hwF⟩ : ∃ wF, wF = ((((w11.setCell ⟨w.heap.size + 1 + 1, 0, none⟩ (.slice none 0 0)).setCell ⟨w.heap.size + 1 + 1, 1, none⟩ (.slice (some ⟨g, 0, none⟩) 1 c)).setCell ⟨w.heap.size + 1 + 1, 2, none⟩ (.slice none 0 0)).setCell ⟨w.heap.size + 1 + 1, 3, none⟩ (.slice none 0 0)) := ⟨_, rfl⟩
            obtain ⟨⟨k0, k1, k2, k3⟩, hff, hbf⟩ := HFF.out wF hwF
            rw [← hwF]
            exact bodyPost_ret (v := .tuple #[.agg #[.slice none 0 0, .slice (some ⟨g, 0, none⟩) 1 c, .slice none 0 0, .slice none 0 0], .int .i64 0]) (by simp [results, Tryd.results47, go_sem, k0, k1, k2, k3]) rfl ⟨⟨_, _, rfl, hff⟩, hbf⟩
end Go.Proofs.YteilnbnnhocciaaDoor.V

/-! V21 -/
set_option linter.unusedVariables false
set_option linter.unusedSimpArgs false
namespace Go.Proofs.YteilnbnnhocciaaDoor.V
open Go.Proofs Go.RowKit Go.BigFrame Go.Proofs.YteilnbnnhocciaaDoorM Go.Proofs.YteilnbnnhocciaaDoorW.PrintWords Go.Proofs.YteilnbnnhocciaaDoorW.PrintLast Go.Proofs.YteilnbnnhocciaaDoorW.PrintMore Go.Proofs.YteilnbnnhocciaaDoor.KV
theorem info107' : (Tryd.prog.info? 107).map (fun i => (i.zero, i.size, i.bytes)) = some (some (.agg #[.int .i64 0, .int .u64 0, .int .u64 0, .int .u64 0, .string ⟨#[]⟩, .string ⟨#[]⟩]), 6, 64) := by kernel_rfl
def Five (w : World) (b : Nat) (v : Value) : Prop := ∃ t, w.heap[b]? = some (.cells #[.int .u64 0, .int .u64 0, .int .u64 0, v, .slice none 0 0] t)
theorem Five.keep {w w' : World} {b : Nat} {v : Value} (h : Five w b v) (hb : w'.heap[b]? = w.heap[b]?) : Five w' b v := by
  obtain ⟨t, h⟩ := h
  exact ⟨t, hb.trans h⟩
theorem Five.lt {w : World} {b : Nat} {v : Value} (h : Five w b v) : b < w.heap.size := by
  obtain ⟨t, h⟩ := h
  exact (Array.getElem?_eq_some_iff.1 h).1
theorem Five.below {w w' : World} {b : Nat} {v : Value} (h : Five w b v) (hb : Below w.heap.size w w') : Five w' b v := h.keep (hb.block b h.lt)
theorem Five.cells {w : World} {b : Nat} {v : Value} (h : Five w b v) : w.cell? ⟨b, 0, none⟩ = some (.int .u64 0) ∧ w.cell? ⟨b, 1, none⟩ = some (.int .u64 0) ∧ w.cell? ⟨b, 2, none⟩ = some (.int .u64 0) ∧ w.cell? ⟨b, 3, none⟩ = some v ∧ w.cell? ⟨b, 4, none⟩ = some (.slice none 0 0) ∧ ∀ i, w.frozen? ⟨b, i, none⟩ = false := by
  obtain ⟨t, h⟩ := h
  simp only [World.cell?, World.frozen?, h]
  exact ⟨rfl, rfl, rfl, rfl, rfl, fun _ => rfl⟩
theorem Five.set3 {w : World} {b : Nat} {v : Value} (h : Five w b v) (v' : Value) : Five (w.setCell ⟨b, 3, none⟩ v') b v' := by
  obtain ⟨t, h⟩ := h
  refine ⟨t, ?_⟩
  obtain ⟨hlt, hk⟩ := Array.getElem?_eq_some_iff.1 h
  show (w.heap.modify b _)[b]? = _
  rw [Array.getElem?_eq_getElem (by rw [Array.size_modify]; exact hlt), Array.getElem_modify_self, hk]
  rfl
theorem set_cells {w : World} {b : Nat} {c : Array Value} {t : TypeId} (h : w.heap[b]? = some (.cells c t)) (i : Nat) (v : Value) : (w.setCell ⟨b, i, none⟩ v).heap[b]? = some (.cells (c.setIfInBounds i v) t) := by
  obtain ⟨hlt, hk⟩ := Array.getElem?_eq_some_iff.1 h
  show (w.heap.modify b _)[b]? = _
  rw [Array.getElem?_eq_getElem (by rw [Array.size_modify]; exact hlt), Array.getElem_modify_self, hk]
  simp
theorem Five.sets {w : World} {b : Nat} {v0 : Value} (h : Five w b v0) (v : Value) : Five (((((w.setCell ⟨b, 0, none⟩ (.int .u64 0)).setCell ⟨b, 1, none⟩ (.int .u64 0)).setCell ⟨b, 2, none⟩ (.int .u64 0)).setCell ⟨b, 3, none⟩ v).setCell ⟨b, 4, none⟩ (.slice none 0 0)) b v := by
  obtain ⟨t, h⟩ := h
  exact ⟨t, set_cells (set_cells (set_cells (set_cells (set_cells h 0 _) 1 _) 2 _) 3 _) 4 _⟩
theorem index77_at (f : Nat → Value) (j : Nat) (hj : j < 4) (wr : World) : (Instr.index 77 (.agg #[f 0, f 1, f 2, f 3]) (.int .i64 (j : Int))).run Tryd.prog wr = .ok (f j) wr := by
  have : j = 0 ∨ j = 1 ∨ j = 2 ∨ j = 3 := by omega
  rcases this with rfl | rfl | rfl | rfl
  · exact index77_0 _ _ _ _ wr
  · exact index77_1 _ _ _ _ wr
  · exact index77_2 _ _ _ _ wr
  · exact index77_3 _ _ _ _ wr
def comeCells (lv : Nat) (f : FileV) : List Value := [.int .i64 lv, .int .u64 f.num, .int .u64 f.size, .int .u64 f.count, .string f.least, .string f.most]
def levelCells (lv : Nat) (L : List FileV) : List Value := L.flatMap (comeCells lv)
def allCells (Lf : Nat → List FileV) : Nat → List Value
  | 0 => []
  | j + 1 => allCells Lf j ++ levelCells j (Lf j)
def allLen (Lf : Nat → List FileV) : Nat → Nat
  | 0 => 0
  | j + 1 => allLen Lf j + (Lf j).length
theorem levelCells_snoc (lv : Nat) (L : List FileV) (f : FileV) : levelCells lv (L ++ [f]) = levelCells lv L ++ comeCells lv f := by
  unfold levelCells
  rw [List.flatMap_append]
  simp
theorem comeCells_one (lv : Nat) (f : FileV) : ∀ u ∈ comeCells lv f, u.oneCell' = true := by
  intro v hv
  simp only [comeCells, List.mem_cons, List.not_mem_nil, or_false] at hv
  rcases hv with rfl | rfl | rfl | rfl | rfl | rfl <;> rfl
structure FSt (w : World) (v : Value) (n : Nat) (xs : List Value) (wr : World) : Prop where
  below : Below w.heap.size w wr
  e : Five wr (w.heap.size + 1 + 1) v
  r : Five wr (w.heap.size + 1) (.slice none 0 0)
  own : wr.ownsRow (w.heap.size + 3) 107 6 v n xs
theorem own_slice {w : World} {base e size n : Nat} {v : Value} {xs : List Value} (h : w.ownsRow base e size v n xs) : ∃ A c, v = .slice A n c := by
  rcases h.2 with ⟨rfl, rfl⟩ | ⟨g, cap, cur, rfl, _⟩
  · exact ⟨_, _, rfl⟩
  · exact ⟨_, _, rfl⟩
theorem FSt.kept {w wr w' : World} {v : Value} {n : Nat} {xs : List Value} {o o2 : Obj} (h : FSt w v n xs wr) (hg : ((wr.alloc o).alloc o2).grownBy w' v.ownBlock) : w'.cell? ⟨w.heap.size + 1 + 1, 3, none⟩ = some v ∧ w'.frozen? ⟨w.heap.size + 1 + 1, 3, none⟩ = false := by
  have z1 := size_alloc wr o
  have z2 := size_alloc (wr.alloc o) o2
  have vb : ∀ k, v.ownBlock = some k → w.heap.size + 3 ≤ k := fun k hk => by
    rcases h.own.2 with ⟨h1, _⟩ | ⟨g, cap, cur, h1, h2, _⟩
    · rw [h1] at hk; cases hk
    · rw [h1] at hk; cases hk; exact h2
  have ba := ((Below.refl wr.heap.size wr).alloc (Nat.le_refl _) o).alloc (by omega) o2
  have e1 := h.e.keep ((hg.block _ (by have := h.e.lt; omega) (fun e => by have := vb _ e.symm; omega)).trans (ba.block _ h.e.lt))
  exact ⟨e1.cells.2.2.2.1, e1.cells.2.2.2.2.2 3⟩
theorem FSt.next {w wr w' : World} {v v' : Value} {n : Nat} {xs news : List Value} {o o2 : Obj} (h : FSt w v n xs wr) (hown : w'.ownsRow (w.heap.size + 3) 107 6 v' (n + 1) (xs ++ news)) (hg : ((wr.alloc o).alloc o2).grownBy w' v.ownBlock) :
    FSt w v' (n + 1) (xs ++ news) (w'.setCell ⟨w.heap.size + 1 + 1, 3, none⟩ v') := by
  have z1 := size_alloc wr o
  have z2 := size_alloc (wr.alloc o) o2
  have vb : ∀ k, v.ownBlock = some k → w.heap.size + 3 ≤ k := fun k hk => by
    rcases h.own.2 with ⟨h1, _⟩ | ⟨g, cap, cur, h1, h2, _⟩
    · rw [h1] at hk; cases hk
    · rw [h1] at hk; cases hk; exact h2
  have ba := ((Below.refl wr.heap.size wr).alloc (Nat.le_refl _) o).alloc (by omega) o2
  have kp : ∀ k, k < w.heap.size + 3 → k < wr.heap.size → w'.heap[k]? = wr.heap[k]? := fun k h1 h2 => (hg.block k (by omega) (fun e => by have := vb k e.symm; omega)).trans (ba.block k h2)
  have e1 := h.e.keep (kp _ (by omega) h.e.lt)
  have r1 := h.r.keep (kp _ (by omega) h.r.lt)
  have b1 : Below w.heap.size w w' := (h.below.trans (ba.mono h.below.size)).grown hg (by have := h.below.size; omega) (fun k hk => by have := vb k hk; omega)
  refine ⟨b1.setCell (p := ⟨w.heap.size + 1 + 1, 3, none⟩) (by show _ ≤ _ + 1 + 1; omega) _, e1.set3 v', r1.keep (Below.heap_setCell _ _ _ _ (by show w.heap.size + 1 ≠ w.heap.size + 1 + 1; omega)), hown.1, hown.2.imp id ?_⟩
  rintro ⟨g, cap, cur, h1, h2, h3, h4⟩
  exact ⟨g, cap, cur, h1, h2, (Below.heap_setCell w' ⟨w.heap.size + 1 + 1, 3, none⟩ v' g (by show g ≠ w.heap.size + 1 + 1; omega)).trans h3, h4⟩
theorem six_new (W : World) (lv : Nat) (f : FileV) (t : TypeId) (b : Nat) (hb : b = W.heap.size) : ∀ j u, (comeCells lv f)[j]? = some u → (W.alloc (.cells #[.int .i64 lv, .int .u64 f.num, .int .u64 f.size, .int .u64 f.count, .string f.least, .string f.most] t)).cell? ((⟨b, 0, none⟩ : Addr).add j) = some u := by
  intro j u hu
  have e := six_at W (.int .i64 lv) (.int .u64 f.num) (.int .u64 f.size) (.int .u64 f.count) (.string f.least) (.string f.most) t b hb
  match j, hu with
  | 0, hu => obtain rfl := Option.some.inj hu; exact e 0 _ rfl
  | 1, hu => obtain rfl := Option.some.inj hu; exact e 1 _ rfl
  | 2, hu => obtain rfl := Option.some.inj hu; exact e 2 _ rfl
  | 3, hu => obtain rfl := Option.some.inj hu; exact e 3 _ rfl
  | 4, hu => obtain rfl := Option.some.inj hu; exact e 4 _ rfl
  | 5, hu => obtain rfl := Option.some.inj hu; exact e 5 _ rfl
set_option maxHeartbeats 8000000 in
set_option maxRecDepth 100000 in
theorem filesEdit_on (Lf : Nat → List FileV) (Af : Nat → Option Addr) (cf : Nat → Nat) (w : World) (hin : ∀ i, i < 4 → FilesAt w (Af i) (Lf i) ∧ (Lf i).length ≤ 1000000) :
    Calls Tryd.prog 46 #[.agg #[.slice (Af 0) (Lf 0).length (cf 0), .slice (Af 1) (Lf 1).length (cf 1), .slice (Af 2) (Lf 2).length (cf 2), .slice (Af 3) (Lf 3).length (cf 3)]] w fun e w' =>
      (∃ v, e = .returned (.agg #[.int .u64 0, .int .u64 0, .int .u64 0, v, .slice none 0 0]) ∧ w'.ownsRow (w.heap.size + 3) 107 6 v (allLen Lf 4) (allCells Lf 4)) ∧ Below w.heap.size w w' := by
  have HIN := Hush.mk hin
  clear hin
  obtain ⟨i0, hi, hz0, hz1, hz2⟩ := info_parts info107'
  obtain ⟨w1, hw1⟩ : ∃ w1, w1 = ((w.alloc (.cells #[.slice (Af 0) (Lf 0).length (cf 0), .slice (Af 1) (Lf 1).length (cf 1), .slice (Af 2) (Lf 2).length (cf 2), .slice (Af 3) (Lf 3).length (cf 3)] 79)).alloc (.cells #[.int .u64 0, .int .u64 0, .int .u64 0, .slice none 0 0, .slice none 0 0] 26)).alloc (.cells #[.int .u64 0, .int .u64 0, .int .u64 0, .slice none 0 0, .slice none 0 0] 26) := ⟨_, rfl⟩
  have H1 : Hush (FSt w (.slice none 0 0) 0 [] w1) := ⟨by
    have z1 := size_alloc w (.cells #[.slice (Af 0) (Lf 0).length (cf 0), .slice (Af 1) (Lf 1).length (cf 1), .slice (Af 2) (Lf 2).length (cf 2), .slice (Af 3) (Lf 3).length (cf 3)] 79)
    have z2 := size_alloc (w.alloc (.cells #[.slice (Af 0) (Lf 0).length (cf 0), .slice (Af 1) (Lf 1).length (cf 1), .slice (Af 2) (Lf 2).length (cf 2), .slice (Af 3) (Lf 3).length (cf 3)] 79)) (.cells #[.int .u64 0, .int .u64 0, .int .u64 0, .slice none 0 0, .slice none 0 0] 26)
    have e2 := World.alloc_heap_new (w.alloc (.cells #[.slice (Af 0) (Lf 0).length (cf 0), .slice (Af 1) (Lf 1).length (cf 1), .slice (Af 2) (Lf 2).length (cf 2), .slice (Af 3) (Lf 3).length (cf 3)] 79)) (.cells #[.int .u64 0, .int .u64 0, .int .u64 0, .slice none 0 0, .slice none 0 0] 26)
    have e3 := World.alloc_heap_new ((w.alloc (.cells #[.slice (Af 0) (Lf 0).length (cf 0), .slice (Af 1) (Lf 1).length (cf 1), .slice (Af 2) (Lf 2).length (cf 2), .slice (Af 3) (Lf 3).length (cf 3)] 79)).alloc (.cells #[.int .u64 0, .int .u64 0, .int .u64 0, .slice none 0 0, .slice none 0 0] 26)) (.cells #[.int .u64 0, .int .u64 0, .int .u64 0, .slice none 0 0, .slice none 0 0] 26)
    rw [z1] at e2
    rw [z2, z1] at e3
    have f2 : Five ((w.alloc (.cells #[.slice (Af 0) (Lf 0).length (cf 0), .slice (Af 1) (Lf 1).length (cf 1), .slice (Af 2) (Lf 2).length (cf 2), .slice (Af 3) (Lf 3).length (cf 3)] 79)).alloc (.cells #[.int .u64 0, .int .u64 0, .int .u64 0, .slice none 0 0, .slice none 0 0] 26)) (w.heap.size + 1) (.slice none 0 0) := ⟨26, e2⟩
    rw [hw1]
    exact ⟨(((Below.refl _ _).alloc (Nat.le_refl _) _).alloc (by omega) _).alloc (by omega) _, ⟨26, e3⟩, f2.below ((Below.refl _ _).alloc (Nat.le_refl _) _), ⟨rfl, .inl ⟨rfl, rfl⟩⟩⟩⟩
  have hz : w1.heap.size = w.heap.size + 3 := by rw [hw1, size_alloc, size_alloc, size_alloc]
  have HZ := Hush.mk hz
  clear hz
  obtain ⟨n, hn⟩ : ∃ n, n = allLen Lf 4 := ⟨_, rfl⟩
  obtain ⟨xs, hx⟩ : ∃ xs, xs = allCells Lf 4 := ⟨_, rfl⟩
  rw [← hn, ← hx]
  have HN4 := Hush.mk (And.intro hn hx)
  clear hn hx
  go_enter Tryd.func46, Tryd.ntmps46
  go_wp2
  rw [← hw1]
  clear hw1
  go_loopw [10] (fun iv wr => ∃ j : Nat, iv = .int .i64 j ∧ j ≤ 4 ∧ Hush (w.heap.size + 3 ≤ wr.heap.size ∧ ∃ A c, FSt w (.slice A (allLen Lf j) c) (allLen Lf j) (allCells Lf j) wr)) (fun iv _ => 4 - (intOf iv).toNat)
  case atStart => exact ⟨0, by go_num, by omega, ⟨by rw [HZ.out]; exact Nat.le_refl _, _, _, H1.out⟩⟩
  case round =>
    obtain ⟨j, rfl, hj4, HJ⟩ := hrel
    by_cases hlt : j < 4
    · have hltz : (j : Int) < 4 := by omega
      have hix := index77_at (fun i => .slice (Af i) (Lf i).length (cf i)) j hlt
      obtain ⟨L, hL⟩ : ∃ L, L = Lf j := ⟨_, rfl⟩
      obtain ⟨AL, hAL⟩ : ∃ A, A = Af j := ⟨_, rfl⟩
      obtain ⟨cL, hcL⟩ : ∃ c, c = cf j := ⟨_, rfl⟩
      have hf := HIN.out j hlt
      rw [← hL, ← hAL, ← hcL] at hix
      rw [← hL, ← hAL] at hf
      have HF := Hush.mk hf
      have HL := Hush.mk hL
      have hll := hf.2
      have HLL : Hush (allLen Lf j ≤ 4000000) := ⟨by
        have a0 := (HIN.out 0 (by omega)).2
        have a1 := (HIN.out 1 (by omega)).2
        have a2 := (HIN.out 2 (by omega)).2
        have : j = 0 ∨ j = 1 ∨ j = 2 ∨ j = 3 := by omega
        rcases this with rfl | rfl | rfl | rfl <;> simp only [allLen] <;> omega⟩
      clear hL hAL hcL hf
      go_wp2
      go_loopw [16] (fun iv wx => ∃ k : Nat, iv = .int .i64 k ∧ k ≤ L.length ∧ Hush (w.heap.size + 3 ≤ wx.heap.size ∧ ∃ A c, FSt w (.slice A (allLen Lf j + k) c) (allLen Lf j + k) (allCells Lf j ++ levelCells j (L.take k)) wx)) (fun iv _ => L.length - (intOf iv).toNat)
      case atStart => exact ⟨0, by go_num, by omega, ⟨HJ.out.1, by
        obtain ⟨A, c, hv⟩ := HJ.out.2
        exact ⟨A, c, by simpa [levelCells] using hv⟩⟩⟩
      case round =>
        obtain ⟨k, rfl, hk, HK⟩ := hrel
        by_cases hlt2 : k < L.length
        · have hlt2z : (k : Int) < (L.length : Int) := by omega
          obtain ⟨kb, hkb⟩ : ∃ kb : Int, kb = 1000000 := ⟨_, rfl⟩
          have hkz : (k : Int) < kb := by omega
          have hkb2 : kb ≤ 9000000 := by omega
          clear hkb
          obtain ⟨hsz, A, c, hst⟩ := HK.out
          obtain ⟨n, hn⟩ : ∃ n, n = allLen Lf j + k := ⟨_, rfl⟩
          have hnz : n ≤ 5000000 := by have := HLL.out; omega
          rw [← hn] at hst
          have HNN := Hush.mk hn
          clear hn
          obtain ⟨f, hf⟩ : ∃ f, L[k]? = some f := ⟨_, List.getElem?_eq_getElem hlt2⟩
          obtain ⟨ad, rfl, hat⟩ := HF.out.1 (by omega)
          have hA := (hat k f hf).below hst.below
          have HSN : Hush (levelCells j (L.take (k + 1)) = levelCells j (L.take k) ++ comeCells j f) := ⟨by
            obtain ⟨q1, q2⟩ := List.getElem?_eq_some_iff.1 hf
            rw [List.take_succ_eq_append_getElem q1, q2, levelCells_snoc]⟩
          have HST := Hush.mk hst
          have HSZ := Hush.mk hsz
          have hc3 : ∀ o, (wr.alloc o).cell? ⟨w.heap.size + 1 + 1, 3, none⟩ = some (.slice A n c) := fun o => (hst.e.below ((Below.refl _ _).alloc (Nat.le_refl _) o)).cells.2.2.2.1
          clear hat hf hst HK hsz
          obtain ⟨f0, f1, f2, f3, f4⟩ := f
          simp only [FileAt] at hA
          obtain ⟨x0, x1, x2, x3, x4⟩ := hA
          have HB2 : Hush (w.heap.size + 3 ≤ ((wr.alloc (.cells #[.int .u64 f0, .int .u64 f1, .int .u64 f2, .string f3, .string f4] 97)).alloc (.cells #[.int .i64 j, .int .u64 f0, .int .u64 f1, .int .u64 f2, .string f3, .string f4] 107)).heap.size) := ⟨by rw [size_alloc, size_alloc]; have := HSZ.out; omega⟩
          have HOW : Hush (((wr.alloc (.cells #[.int .u64 f0, .int .u64 f1, .int .u64 f2, .string f3, .string f4] 97)).alloc (.cells #[.int .i64 j, .int .u64 f0, .int .u64 f1, .int .u64 f2, .string f3, .string f4] 107)).ownsRow (w.heap.size + 3) 107 6 (.slice A n c) n (allCells Lf j ++ levelCells j (L.take k))) := ⟨ownsRow_keep (ownsRow_keep HST.out.own ((Below.refl _ _).alloc (Nat.le_refl _) _)) ((Below.refl _ _).alloc (Nat.le_refl _) _)⟩
          go_wp2_with (at_builtin; refine wpList_append_own_at _ rfl _ _ 23 rfl (w.heap.size + 3) 107 i0 (.agg #[.int .i64 0, .int .u64 0, .int .u64 0, .int .u64 0, .string ⟨#[]⟩, .string ⟨#[]⟩]) 6 64 Tryd.underlying23 hi hz0 hz1 hz2 rfl (by decide) (.slice A n c) _ _ rfl HOW.out ⟨_, 0, none⟩ 1 1 (comeCells j ⟨f0, f1, f2, f3, f4⟩) rfl rfl (six_new _ j ⟨f0, f1, f2, f3, f4⟩ 107 _ (by simp)) (comeCells_one j _) (by unfold maxLen; omega) (by omega) HB2.out ?_; intro v' w5 hown' hg' hnil hloc; obtain ⟨A5, c5, rfl⟩ := own_slice hown'; have HNX := Hush.mk (HST.out.next hown' hg'); have HGS : Hush (wr.heap.size ≤ w5.heap.size) := ⟨Nat.le_trans (by rw [size_alloc, size_alloc]; omega) hg'.size⟩; have HFV := Hush.mk (HST.out.kept hg'); obtain ⟨k3, k4⟩ := HFV.out)
          go_roundw
          case rel => exact ⟨k + 1, by go_num, by omega, ⟨Nat.le_trans HSZ.out (by rw [World.size_setCell]; have h1 := HNX.out.own; have h2 := HGS.out; omega), A5, c5, by
            have e : allLen Lf j + (k + 1) = n + 1 := by rw [HNN.out]; omega
            rw [e, HSN.out, ← List.append_assoc]
            exact HNX.out⟩⟩
          case measure => simp [intOf]; omega
        · obtain rfl : k = L.length := by omega
          have HK2 : Hush (w.heap.size + 3 ≤ wr.heap.size ∧ ∃ A c, FSt w (.slice A (allLen Lf (j + 1)) c) (allLen Lf (j + 1)) (allCells Lf (j + 1)) wr) := ⟨by
            obtain ⟨h1, A, c, h2⟩ := HK.out
            rw [List.take_of_length_le (Nat.le_refl _), HL.out] at h2
            exact ⟨h1, A, c, h2⟩⟩
          clear HK
          go_wp2
          go_roundw
          case rel => exact ⟨j + 1, by go_num, by omega, HK2⟩
          case measure => simp [intOf]; omega
    · obtain rfl : j = 4 := by omega
      obtain ⟨hsz, A, c, hst⟩ := HJ.out
      rw [← HN4.out.1, ← HN4.out.2] at hst
      have HST := Hush.mk hst
      obtain ⟨g0, g1, g2, g3, g4, g5⟩ := hst.e.cells
      obtain ⟨r0, r1, r2, r3, r4, r5⟩ := hst.r.cells
      have r50 := r5 0
      have r51 := r5 1
      have r52 := r5 2
      have r53 := r5 3
      have r54 := r5 4
      clear hst HJ HIN r5 g5
      have HFF : Hush (∀ wF, wF = (((((wr.setCell ⟨w.heap.size + 1, 0, none⟩ (.int .u64 0)).setCell ⟨w.heap.size + 1, 1, none⟩ (.int .u64 0)).setCell ⟨w.heap.size + 1, 2, none⟩ (.int .u64 0)).setCell ⟨w.heap.size + 1, 3, none⟩ (.slice A n c)).setCell ⟨w.heap.size + 1, 4, none⟩ (.slice none 0 0)) → Five wF (w.heap.size + 1) (.slice A n c) ∧ wF.ownsRow (w.heap.size + 3) 107 6 (.slice A n c) n xs ∧ Below w.heap.size w wF) := ⟨fun wF hF => by
        have far : ∀ (W : World) (i : Nat) (u : Value), W.ownsRow (w.heap.size + 3) 107 6 (.slice A n c) n xs → (W.setCell ⟨w.heap.size + 1, i, none⟩ u).ownsRow (w.heap.size + 3) 107 6 (.slice A n c) n xs := fun W i u h => by
          refine ⟨h.1, h.2.imp id ?_⟩
          rintro ⟨g, cap, cur, h1, h2, h3, h4⟩
          exact ⟨g, cap, cur, h1, h2, (Below.heap_setCell W ⟨w.heap.size + 1, i, none⟩ u g (by show g ≠ w.heap.size + 1; omega)).trans h3, h4⟩
        have bs : ∀ (W : World) (i : Nat) (u : Value), Below w.heap.size w W → Below w.heap.size w (W.setCell ⟨w.heap.size + 1, i, none⟩ u) := fun W i u h => h.setCell (p := ⟨w.heap.size + 1, i, none⟩) (by show _ ≤ _ + 1; omega) _
        rw [hF]
        exact ⟨HST.out.r.sets _, far _ _ _ (far _ _ _ (far _ _ _ (far _ _ _ (far _ _ _ HST.out.own)))), bs _ _ _ (bs _ _ _ (bs _ _ _ (bs _ _ _ (bs _ _ _ HST.out.below))))⟩⟩
      go_wp2
      obtain ⟨wF, hwF⟩ : ∃ wF, wF = (((((wr.setCell ⟨w.heap.size + 1, 0, none⟩ (.int .u64 0)).setCell ⟨w.heap.size + 1, 1, none⟩ (.int .u64 0)).setCell ⟨w.heap.size + 1, 2, none⟩ (.int .u64 0)).setCell ⟨w.heap.size + 1, 3, none⟩ (.slice A n c)).setCell ⟨w.heap.size + 1, 4, none⟩ (.slice none 0 0)) := ⟨_, rfl⟩
      obtain ⟨h5, ho, hb⟩ := HFF.out wF hwF
      obtain ⟨k0, k1, k2, k3, k4, _⟩ := h5.cells
      rw [← hwF]
      exact bodyPost_ret (v := .agg #[.int .u64 0, .int .u64 0, .int .u64 0, .slice A n c, .slice none 0 0]) (by simp [results, Tryd.results46, go_sem, k0, k1, k2, k3, k4]) rfl ⟨⟨_, rfl, ho⟩, hb⟩
theorem field26 (a b c : Int) (v u : Value) (W : World) : (Instr.field 26 (.agg #[.int .u64 a, .int .u64 b, .int .u64 c, v, u]) 3).run Tryd.prog W = .ok v W := by kernel_rfl
set_option maxHeartbeats 4000000 in
set_option maxRecDepth 100000 in
theorem count_on (Lf : Nat → List FileV) (Af : Nat → Option Addr) (cf : Nat → Nat) (w : World) (hin : ∀ i, i < 4 → FilesAt w (Af i) (Lf i) ∧ (Lf i).length ≤ 1000000) :
    Calls Tryd.prog 48 #[.agg #[.slice (Af 0) (Lf 0).length (cf 0), .slice (Af 1) (Lf 1).length (cf 1), .slice (Af 2) (Lf 2).length (cf 2), .slice (Af 3) (Lf 3).length (cf 3)]] w fun e w' => e = .returned (.int .i64 (allLen Lf 4)) ∧ Below w.heap.size w w' := by
  have HC : Hush (∀ W, Below w.heap.size w W → Calls Tryd.prog 46 #[.agg #[.slice (Af 0) (Lf 0).length (cf 0), .slice (Af 1) (Lf 1).length (cf 1), .slice (Af 2) (Lf 2).length (cf 2), .slice (Af 3) (Lf 3).length (cf 3)]] W fun e w' => (∃ A c, e = .returned (.agg #[.int .u64 0, .int .u64 0, .int .u64 0, .slice A (allLen Lf 4) c, .slice none 0 0])) ∧ Below w.heap.size w w') := ⟨fun W hW =>
    (filesEdit_on Lf Af cf W (fun i hi => ⟨(hin i hi).1.below hW, (hin i hi).2⟩)).mono fun e w' ⟨⟨v, h1, h2⟩, h3⟩ => ⟨by
      obtain ⟨A, c, rfl⟩ := own_slice h2
      exact ⟨A, c, h1⟩, hW.trans (h3.mono hW.size)⟩⟩
  clear hin
  obtain ⟨n, hn⟩ : ∃ n, n = allLen Lf 4 := ⟨_, rfl⟩
  rw [← hn] at HC ⊢
  clear hn
  have hf := fun A c => field26 0 0 0 (.slice A n c) (.slice none 0 0)
  go_enter Tryd.func48, Tryd.ntmps48
  go_wp2_with (go_at_call 46; refine (HC.out _ ((Below.refl _ _).alloc (Nat.le_refl _) _)).mono ?_; rintro e w1 ⟨⟨A, c, rfl⟩, hb1⟩; have HB1 := Hush.mk hb1; clear hb1)
  go_ret
  exact ⟨rfl, HB1.out⟩
end Go.Proofs.YteilnbnnhocciaaDoor.V

/-! V22 -/
set_option linter.unusedVariables false
set_option linter.unusedSimpArgs false
namespace Go.Proofs.YteilnbnnhocciaaDoor.V
open Go.Proofs Go.RowKit Go.BigFrame Go.Proofs.YteilnbnnhocciaaDoorM Go.Proofs.YteilnbnnhocciaaDoorW.PrintWords Go.Proofs.YteilnbnnhocciaaDoorW.PrintLast Go.Proofs.YteilnbnnhocciaaDoorW.PrintMore Go.Proofs.YteilnbnnhocciaaDoor.KV
theorem right_nil (w : World) : Calls Tryd.prog 44 #[.agg #[.slice none 0 0, .slice none 0 0, .slice none 0 0, .slice none 0 0]] w fun e w' => e = .returned (.bool true) ∧ Below w.heap.size w w' := by
  have nl : LevelIn w none [] := ⟨fun h => by simp at h, by simp, by simp⟩
  have := right_on none none none none [] [] [] [] 0 0 0 0 w nl nl nl nl
  rwa [rightN] at this
theorem count_one (A : Option Addr) (c : Nat) (w : World) (h : FilesAt w A [fileA]) : Calls Tryd.prog 48 #[.agg #[.slice none 0 0, .slice A 1 c, .slice none 0 0, .slice none 0 0]] w fun e w' => e = .returned (.int .i64 1) ∧ Below w.heap.size w w' :=
  count_on (fun i => if i = 1 then [fileA] else []) (fun i => if i = 1 then A else none) (fun i => if i = 1 then c else 0) w (fun i hi => by
    have : i = 0 ∨ i = 1 ∨ i = 2 ∨ i = 3 := by omega
    rcases this with rfl | rfl | rfl | rfl
    · exact ⟨fun h => by simp at h, by simp⟩
    · exact ⟨h, by simp⟩
    · exact ⟨fun h => by simp at h, by simp⟩
    · exact ⟨fun h => by simp at h, by simp⟩)
theorem law12_awake_on (w : World) : Calls Tryd.prog 88 #[] w fun e w' => e = .returned (.bool true) ∧ Below w.heap.size w w' := bourselaw12_Awake.calls true w rfl
theorem four_new (W : World) (a b c d : Value) (t : TypeId) (k : Nat) (hk : k = W.heap.size) {W' : World} (hb : Below (W.alloc (.cells #[a, b, c, d] t)).heap.size (W.alloc (.cells #[a, b, c, d] t)) W') : W'.cell? ⟨k, 0, none⟩ = some a ∧ W'.cell? ⟨k, 1, none⟩ = some b ∧ W'.cell? ⟨k, 2, none⟩ = some c ∧ W'.cell? ⟨k, 3, none⟩ = some d := by
  subst hk
  have e := World.alloc_heap_new W (.cells #[a, b, c, d] t)
  have e' : W'.heap[W.heap.size]? = some (.cells #[a, b, c, d] t) := (hb.block _ (by rw [size_alloc]; omega)).trans e
  simp only [World.cell?, e']
  exact ⟨rfl, rfl, rfl, rfl⟩
set_option maxHeartbeats 8000000 in
set_option maxRecDepth 100000 in
theorem awake_on (w : World) : Calls Tryd.prog 37 #[] w fun e w' => e = .returned (.bool true) ∧ Below w.heap.size w w' := by
  obtain ⟨w1, hw1⟩ : ∃ w1, w1 = w.alloc (.cells #[.slice none 0 0, .slice none 0 0, .slice none 0 0, .slice none 0 0] 79) := ⟨_, rfl⟩
  have HB1 : Hush (Below w.heap.size w w1 ∧ ∀ W, Below w1.heap.size w1 W → W.cell? ⟨w.heap.size, 0, none⟩ = some (.slice none 0 0) ∧ W.cell? ⟨w.heap.size, 1, none⟩ = some (.slice none 0 0) ∧ W.cell? ⟨w.heap.size, 2, none⟩ = some (.slice none 0 0) ∧ W.cell? ⟨w.heap.size, 3, none⟩ = some (.slice none 0 0)) := ⟨by
    rw [hw1]
    exact ⟨(Below.refl _ _).alloc (Nat.le_refl _) _, fun W hW => four_new w _ _ _ _ 79 _ rfl hW⟩⟩
  obtain ⟨a0, a1, a2, a3⟩ := HB1.out.2 w1 (Below.refl _ _)
  go_enter Tryd.func37, Tryd.ntmps37
  go_wp2_with (first
    | (go_at_call 40; rw [← hw1]; refine (pick_nil _).mono ?_; rintro e w2 ⟨rfl, hb2⟩; have HB2 := Hush.mk hb2; obtain ⟨c0, c1, c2, c3⟩ := HB1.out.2 (w2.alloc (.cells #[.int .i64 0, .slice none 0 0, .slice none 0 0] 87)) (hb2.alloc hb2.size _); clear hb2)
    | (go_at_call 47; refine (apply_one _ _ (six_at _ _ _ _ _ _ _ _ _ (by simp) 0 _ rfl) (six_at _ _ _ _ _ _ _ _ _ (by simp) 1 _ rfl) (six_at _ _ _ _ _ _ _ _ _ (by simp) 2 _ rfl) (six_at _ _ _ _ _ _ _ _ _ (by simp) 3 _ rfl) (six_at _ _ _ _ _ _ _ _ _ (by simp) 4 _ rfl) (six_at _ _ _ _ _ _ _ _ _ (by simp) 5 _ rfl)).mono ?_; rintro e w3 ⟨⟨A, c, rfl, hf⟩, hb3⟩; have HB3 : Hush (Below w1.heap.size w1 w3) := ⟨((HB2.out.alloc HB2.out.size _).alloc (by rw [size_alloc]; have := HB2.out.size; omega) _).trans (hb3.mono (by rw [size_alloc, size_alloc]; have := HB2.out.size; omega))⟩; have HF := Hush.mk hf; have d0 := fun o => (HB1.out.2 (w3.alloc o) (HB3.out.alloc HB3.out.size _)).1; have d1 := fun o => (HB1.out.2 (w3.alloc o) (HB3.out.alloc HB3.out.size _)).2.1; have d2 := fun o => (HB1.out.2 (w3.alloc o) (HB3.out.alloc HB3.out.size _)).2.2.1; have d3 := fun o => (HB1.out.2 (w3.alloc o) (HB3.out.alloc HB3.out.size _)).2.2.2; clear hb3 hf)
    | (go_at_call 44; refine (right_nil _).mono ?_; rintro e w4 ⟨rfl, hb4⟩; obtain ⟨p0, p1, p2, p3⟩ := four_new w3 _ _ _ _ 79 _ rfl hb4; have HB4 : Hush (Below w3.heap.size w3 w4) := ⟨((Below.refl _ _).alloc (Nat.le_refl _) _).trans (hb4.mono (by rw [size_alloc]; omega))⟩; have HF4 := Hush.mk (HF.out.below HB4.out); clear hb4)
    | (go_at_call 48; refine (count_one _ _ _ HF4.out).mono ?_; rintro e w5 ⟨rfl, hb5⟩; have HB5 := Hush.mk hb5; clear hb5)
    | (go_at_call 88; refine (law12_awake_on _).mono ?_; rintro e w6 ⟨rfl, hb6⟩; have HB6 := Hush.mk hb6; clear hb6))
  go_ret
  exact ⟨rfl, by
    have b3 : Below w.heap.size w w3 := HB1.out.1.trans (HB3.out.mono HB1.out.1.size)
    have b4 := b3.trans (HB4.out.mono b3.size)
    have b5 := b4.trans (HB5.out.mono b4.size)
    exact b5.trans (HB6.out.mono b5.size)⟩
theorem versionRaw_on (Lf : Nat → List FileV) (Af : Nat → Option Addr) (cf : Nat → Nat) (w : World) (hin : ∀ i, i < 4 → ArgIn w (Af i) (Lf i) (cf i)) :
    Calls Tryd.prog 11 #[.slice (Af 0) (Lf 0).length (cf 0), .slice (Af 1) (Lf 1).length (cf 1), .slice (Af 2) (Lf 2).length (cf 2), .slice (Af 3) (Lf 3).length (cf 3)] w fun e w' => e = .returned (.bool true) ∧ Below w.heap.size w w' :=
  raw_on Lf Af cf w hin (awake_on w)
end Go.Proofs.YteilnbnnhocciaaDoor.V

/-! M3 -/
set_option linter.unusedVariables false
namespace Go.Proofs.YteilnbnnhocciaaDoorM
open Go.RowKit Go.Proofs.YteilnbnnhocciaaDoorW.PrintWords
def Opens (P : Program) (t : TypeId) {α : Type} (d : Kd α) (G : α → Prop) : Prop :=
  ∀ {H : Type} (enc : TypeId × Value → H) (w : World) (base : Nat) (spare : Nat → Bool) (held : Bool) (n : Nat) (cs : List Value) (x : DataW H × List MemPlace), DataW.trod enc P w base spare held n t cs = some x → ∃ a, d.K w a cs ∧ G a
variable {P : Program}
theorem opens_int {t : TypeId} {k : IntKind} (ht : P.underlying t = some (.int k)) : Opens P t (Kd.int k) (fun n => (Lit.int k n).wf = true) := by
  intro H enc w base spare held n cs x h
  obtain ⟨m, rfl, _, hw⟩ := DataW.trod_int ht h
  exact ⟨m, rfl, hw⟩
theorem opens_string {t : TypeId} (ht : P.underlying t = some .string) : Opens P t Kd.string (fun s => s.size ≤ maxLen) := by
  intro H enc w base spare held n cs x h
  obtain ⟨s, rfl, _, hs⟩ := DataW.trod_string ht h
  exact ⟨s, rfl, hs⟩
theorem Opens.iso {t : TypeId} {α β : Type} {d : Kd α} {G : α → Prop} (h : Opens P t d G) (f : β → α) (g : α → β) (hg : ∀ a, f (g a) = a) : Opens P t (Kd.iso d f) (fun y => G (f y)) := by
  intro H enc w base spare held n cs x hx
  obtain ⟨a, hK, hG⟩ := h enc w base spare held n cs x hx
  exact ⟨g a, (by rw [hg]; exact hK : d.K w (f (g a)) cs), by show G (f (g a)); rw [hg]; exact hG⟩
theorem Opens.good {t : TypeId} {α : Type} {d : Kd α} {G G' : α → Prop} (h : Opens P t d G) (hg : ∀ a, G a → G' a) : Opens P t d G' := by
  intro H enc w base spare held n cs x hx
  obtain ⟨a, hK, hG⟩ := h enc w base spare held n cs x hx
  exact ⟨a, hK, hg a hG⟩
def OpensF (P : Program) (fs : List Field) (off : Nat) {α : Type} (d : Kd α) (G : α → Prop) : Prop :=
  ∀ {H : Type} (enc : TypeId × Value → H) (w : World) (base : Nat) (spare : Nat → Bool) (held : Bool) (n : Nat) (cs : List Value), cs.length = off + d.sz →
    (∀ f ∈ fs, ∃ y, DataW.trod enc P w base spare held n f.type ((cs.drop f.offset).take (P.cellsOf f.type)) = some y) → ∃ a, d.K w a (cs.drop off) ∧ G a
theorem opensF_one {f : Field} {off : Nat} {α : Type} {d : Kd α} {G : α → Prop} (h : Opens P f.type d G) (ho : f.offset = off) (hs : P.cellsOf f.type = d.sz) : OpensF P [f] off d G := by
  intro H enc w base spare held n cs hl hf
  obtain ⟨y, hy⟩ := hf f (by simp)
  rw [ho, List.take_of_length_le (by rw [List.length_drop]; omega)] at hy
  exact h enc w base spare held n _ _ hy
theorem opensF_cons {f : Field} {fs : List Field} {off : Nat} {α β : Type} {d : Kd α} {G : α → Prop} {d' : Kd β} {G' : β → Prop} (h : Opens P f.type d G) (ho : f.offset = off) (hs : P.cellsOf f.type = d.sz)
    (hr : OpensF P fs (off + d.sz) d' G') : OpensF P (f :: fs) off (Kd.pair d d') (fun x => G x.1 ∧ G' x.2) := by
  intro H enc w base spare held n cs hl hf
  obtain ⟨y, hy⟩ := hf f (by simp)
  rw [ho, hs] at hy
  obtain ⟨a, hK, hG⟩ := h enc w base spare held n _ _ hy
  obtain ⟨b, hK', hG'⟩ := hr enc w base spare held n cs (by rw [hl]; show off + (d.sz + d'.sz) = _; omega) (fun g hg => hf g (by simp [hg]))
  refine ⟨(a, b), ⟨_, _, ?_, hK, hK'⟩, hG, hG'⟩
  rw [← List.drop_drop, List.take_append_drop]
theorem opens_struct {t : TypeId} {fs : List Field} {α : Type} {d : Kd α} {G : α → Prop} (ht : P.underlying t = some (.struct fs.toArray)) (hs : P.cellsOf t = d.sz) (h : OpensF P fs 0 d G) : Opens P t d G := by
  intro H enc w base spare held n cs x hx
  obtain ⟨xs, m, _, _, hl, hlen, hf⟩ := DataW.trod_struct ht hx
  obtain ⟨a, hK, hG⟩ := h enc w base spare held m cs (by rw [hl, hs]; omega) (fun f hm => by
    obtain ⟨i, hi, hfi⟩ := List.getElem_of_mem hm
    have h1 := hf i f (by simp [hi, hfi])
    rw [h1]
    have hlt : i < xs.length := by rw [hlen]; simpa using hi
    exact ⟨xs[i], List.getElem?_eq_getElem hlt⟩)
  exact ⟨a, by simpa using hK, hG⟩
theorem add_of_add' (a : Addr) (i j : Nat) : (a.add i).add j = a.add (i + j) := by
  unfold Addr.add
  by_cases hi : i = 0 <;> by_cases hj : j = 0 <;> simp [hi, hj, Nat.add_assoc]
theorem list_of {α : Type} {n : Nat} {p : Nat → α → Prop} (h : ∀ i, i < n → ∃ x, p i x) : ∃ l : List α, l.length = n ∧ ∀ i (hi : i < l.length), p i l[i] := by
  induction n with
  | zero => exact ⟨[], rfl, fun i hi => absurd hi (Nat.not_lt_zero _)⟩
  | succ n ih =>
    obtain ⟨l, hl, hp⟩ := ih (fun i hi => h i (by omega))
    obtain ⟨x, hx⟩ := h n (by omega)
    refine ⟨l ++ [x], by simp [hl], fun i hi => ?_⟩
    by_cases hi' : i < l.length
    · rw [List.getElem_append_left hi']; exact hp i hi'
    · have hn : i = n := by simp [hl] at hi; omega
      subst hn
      rw [List.getElem_append_right (by omega)]
      simpa [hl] using hx
theorem opens_slice {t e : TypeId} {α : Type} {d : Kd α} {G : α → Prop} (ht : P.underlying t = some (.slice e)) (hs : P.cellsOf e = d.sz) (h : Opens P e d G) : Opens P t (Kd.slice e d) (fun l => ∀ x ∈ l, G x) := by
  intro H enc w base spare held n cs x hx
  rcases DataW.trod_slice ht hx with ⟨rfl, _⟩ | ⟨a, len, cap, elems, rest, m, _, rfl, _, hb, hl, hm, hlen, hel, _, _⟩
  · exact ⟨[], ⟨none, 0, rfl, Nat.le_refl _, Kd.C_nil _ _⟩, fun x hx => by cases hx⟩
  · obtain ⟨l, hll, hp⟩ := list_of (n := len) (p := fun i a' => ∃ c, w.cells? base (a.add (i * P.cellsOf e)) (P.cellsOf e) = some c ∧ d.K w a' c ∧ G a') (fun i hi => by
      have h1 := hel i hi
      rw [List.getElem?_eq_getElem (by omega)] at h1
      obtain ⟨c, hc, hy⟩ := Option.bind_eq_some_iff.mp h1
      obtain ⟨a', hK, hG⟩ := h enc w base spare held m c _ hy
      exact ⟨a', c, hc, hK, hG⟩)
    refine ⟨l, ⟨some a, cap, by rw [hll], by omega, rfl, by unfold maxLen at hm; omega, fun _ => ⟨a, rfl, fun j p hj => ?_⟩⟩, fun x hx => ?_⟩
    · have hjl : j < l.length := (List.getElem?_eq_some_iff.1 hj).1
      obtain ⟨c, hc, hK, _⟩ := hp j hjl
      obtain rfl : l[j] = p := by rw [List.getElem?_eq_getElem hjl] at hj; exact Option.some.inj hj
      obtain ⟨_, hcl, hcell⟩ := World.cells?_some hc
      refine ⟨c, by rw [hcl, hs], hK, fun i u hu => ?_⟩
      have hi : i < P.cellsOf e := by rw [← hcl]; exact (List.getElem?_eq_some_iff.1 hu).1
      rw [← hs, ← add_of_add', hcell i hi, hu]
    · obtain ⟨i, hi, rfl⟩ := List.getElem_of_mem hx
      obtain ⟨c, _, _, hG⟩ := hp i hi
      exact hG
end Go.Proofs.YteilnbnnhocciaaDoorM

/-! V23 -/
set_option linter.unusedVariables false
namespace Go.Proofs.YteilnbnnhocciaaDoor.V
open Go.ChangeShapes Go.WideShapes Go.ChangeAt Go.RowKit Go.Lib Go.Shelf
open Go.ChangeMaps (open_string shut_string)
open Go.Proofs.YteilnbnnhocciaaDoorM Go.Proofs.YteilnbnnhocciaaDoorW.PrintWords Go.Proofs.YteilnbnnhocciaaDoor.KV
theorem own : ownKnob Tryd.prog.godebug = none := by kernel_rfl
theorem laidOut : laidOutB Tryd.prog = true := by kernel_rfl
def cellsOfData : DataW Unit → Array Value
  | .agg l => (l.map fun
    | .lit (.int k n) => Value.int k n
    | _ => Value.bool false).toArray
  | _ => #[]
noncomputable def laidWorld (os : Os) : World :=
  let w0 := World.holding Tryd.prog os ⟨#[], #[], []⟩
  let put (h : Array Obj) (g : Nat) (cs : Array Value) : Array Obj := h.modify g fun
    | .cells _ t frozen => .cells cs t frozen
    | o => o
  { w0 with heap := put (put (put w0.heap 2 (cellsOfData Rows.laid_internal_strconv_uint64pow10)) 4 (cellsOfData Rows.laid_math_bits_deBruijn32tab)) 5 (cellsOfData Rows.laid_math_bits_deBruijn64tab) }
theorem laid_met (os : Os) (args : Array Value) : laidMet Tryd.prog Rows.versionRawRow.laid ((laidWorld os).forCall (fun _ _ => 0) ⟨#[], args, []⟩).memory :=
  (LaidIn.of_run [2, 4, 5] 8 (by kernel_rfl) (by kernel_rfl) (by kernel_rfl) (by kernel_rfl)).met
section
attribute [local irreducible] Opens OpensF
set_option maxRecDepth 10000
theorem opens97 : Opens Tryd.prog 97 k97 (fun x => (Lit.int .u64 x.f0).wf = true ∧ x.f3.size ≤ maxLen ∧ x.f4.size ≤ maxLen) := by
  unfold k97
  refine (Opens.iso (opens_struct Tryd.underlying97 (by kernel_rfl) (opensF_cons (opens_int Tryd.underlying22) rfl (by kernel_rfl) (opensF_cons (opens_int Tryd.underlying22) rfl (by kernel_rfl) (opensF_cons (opens_int Tryd.underlying22) rfl (by kernel_rfl)
    (opensF_cons (opens_string Tryd.underlying9) rfl (by kernel_rfl) (opensF_one (opens_string Tryd.underlying9) rfl (by kernel_rfl))))))) _ (fun a => ⟨a.1, a.2.1, a.2.2.1, a.2.2.2.1, a.2.2.2.2⟩) (fun _ => rfl)).good ?_
  rintro x ⟨h1, h2, h3, h4, h5⟩
  exact ⟨h1, h4, h5⟩
theorem opens76 : Opens Tryd.prog 76 (Kd.slice 97 k97) (fun l => ∀ x ∈ l, (Lit.int .u64 x.f0).wf = true ∧ x.f3.size ≤ maxLen ∧ x.f4.size ≤ maxLen) := opens_slice Tryd.underlying76 (by kernel_rfl) opens97
end
set_option maxRecDepth 100000 in
theorem open76 {H : Type} {enc : TypeId × Value → H} {W : World} {base base' : Nat} {sp : Nat → Bool} {held : Bool} {v : Value} {d : DataW H} {p : List MemPlace}
    (hv : Value.okWide Tryd.prog W .any base 76 v) (h : DataW.Trod enc Tryd.prog W base' sp held 76 v d p) :
    ∃ (A : Option Addr) (L : List FileV) (c : Nat), v = .slice A L.length c ∧ ArgIn W A L c := by
  obtain ⟨m, hm⟩ := h
  obtain ⟨l, hK, hG⟩ := opens76 enc W base' sp held m _ _ hm
  obtain ⟨A, c, hcs, hl, hC⟩ := hK
  obtain ⟨A', len', c', rfl⟩ := okWide_slice Tryd.underlying76 hv
  simp [Value.cells] at hcs
  obtain ⟨rfl, rfl, rfl⟩ := hcs
  have hF := filesAt_of97 hC
  have hle : l.length ≤ 9223372036854775807 := hC.2.1
  refine ⟨_, l.map of97, c', by rw [List.length_map], hF, by rw [List.length_map]; exact hl, by rw [List.length_map]; exact hle, fun f hf => ?_, fun f hf => ?_⟩
  · obtain ⟨x, hx, rfl⟩ := List.mem_map.1 hf
    exact (hG x hx).1
  · obtain ⟨x, hx, rfl⟩ := List.mem_map.1 hf
    exact (hG x hx).2
set_option maxRecDepth 100000 in
theorem four_in {W : World} {A0 A1 A2 A3 : Option Addr} {L0 L1 L2 L3 : List FileV} {c0 c1 c2 c3 : Nat} (h0 : ArgIn W A0 L0 c0) (h1 : ArgIn W A1 L1 c1) (h2 : ArgIn W A2 L2 c2) (h3 : ArgIn W A3 L3 c3) :
    Calls Tryd.prog 11 #[.slice A0 L0.length c0, .slice A1 L1.length c1, .slice A2 L2.length c2, .slice A3 L3.length c3] W fun e w' => e = .returned (.bool true) ∧ Below W.heap.size W w' :=
  versionRaw_on (fun i => if i = 0 then L0 else if i = 1 then L1 else if i = 2 then L2 else L3) (fun i => if i = 0 then A0 else if i = 1 then A1 else if i = 2 then A2 else A3) (fun i => if i = 0 then c0 else if i = 1 then c1 else if i = 2 then c2 else c3) W (fun i hi => by
    have : i = 0 ∨ i = 1 ∨ i = 2 ∨ i = 3 := by omega
    rcases this with rfl | rfl | rfl | rfl
    · exact h0
    · exact h1
    · exact h2
    · exact h3)
set_option maxRecDepth 100000 in
theorem lifted (os : Os) (started : os.Started) (H : Type) (enc : TypeId × Value → H) :
    ReturnsInHanded {} Tryd.checked os 11 .any (fun w args => (Rows.versionRawSpec.pre enc Tryd.prog Tryd.f11 [] false w args ∧ laidMet Tryd.prog Rows.versionRawRow.laid w) ∧ sizedMet enc Tryd.prog Tryd.f11 (OpenSpec.ofChange Rows.versionRawSpec) false w args)
      (Rows.versionRawSpec.post enc Tryd.prog Tryd.f11 false true false false) := by
  refine returnsInHanded_of_change_and (C := Tryd.checked) (X := fun w _ => laidMet Tryd.prog Rows.versionRawRow.laid w) (fun _ _ _ hh h => h.of_heap hh) own started (by kernel_rfl) Tryd.func11
    (ChangeSpec.witness_at (enc := enc) (C := Tryd.checked) (os := os) (X := fun w _ => laidMet Tryd.prog Rows.versionRawRow.laid w) false (laidWorld os)
      #[.slice none 0 0, .slice none 0 0, .slice none 0 0, .slice none 0 0] 8
      rfl (by kernel_rfl) (by kernel_rfl) (by kernel_rfl) (by kernel_rfl) (by kernel_rfl) (laid_met os _)) ?_
  intro W base args ds gs before hval0 hW hcnd hsz0 _ _
  have hval : ∀ (j : Nat) t v, Tryd.f11.params[j]? = some t → args[j]? = some v → Value.okWide Tryd.prog W .any base t v := hval0
  have hW' := hW
  obtain ⟨p, q, hA0, hV, rfl, hfz, hnd⟩ := hW
  have hA : DataW.TrodAll enc Tryd.prog W 0 (fun _ => true) true Tryd.f11.params.toList args.toList ds p := hA0
  rw [Tryd.params11] at hA hval
  obtain ⟨v0, v1, v2, v3, d0, d1, d2, d3, p0, p1, p2, p3, rfl, rfl, rfl, h0, h1, h2, h3⟩ := trodAll_four hA
  obtain ⟨rfl, rfl⟩ := trodVars_none hV
  have hk0 := h0
  have hk1 := h1
  have hk2 := h2
  have hk3 := h3
  have lt0 : ∀ x ∈ p0, x.block < W.heap.size := by obtain ⟨m, hm⟩ := hk0; exact DataW.trod_lt m _ _ _ hm
  have lt1 : ∀ x ∈ p1, x.block < W.heap.size := by obtain ⟨m, hm⟩ := hk1; exact DataW.trod_lt m _ _ _ hm
  have lt2 : ∀ x ∈ p2, x.block < W.heap.size := by obtain ⟨m, hm⟩ := hk2; exact DataW.trod_lt m _ _ _ hm
  have lt3 : ∀ x ∈ p3, x.block < W.heap.size := by obtain ⟨m, hm⟩ := hk3; exact DataW.trod_lt m _ _ _ hm
  obtain ⟨A0, L0, c0, rfl, g0⟩ := open76 (hval 0 76 v0 rfl rfl) h0
  obtain ⟨A1, L1, c1, rfl, g1⟩ := open76 (hval 1 76 v1 rfl rfl) h1
  obtain ⟨A2, L2, c2, rfl, g2⟩ := open76 (hval 2 76 v2 rfl rfl) h2
  obtain ⟨A3, L3, c3, rfl, g3⟩ := open76 (hval 3 76 v3 rfl rfl) h3
  clear hA0 hval0 hsz0
  refine (four_in g0 g1 g2 g3).mono ?_
  rintro r W' ⟨rfl, bel⟩
  exact ⟨_, rfl, _, _, _, [], _, [], hW', trodAll_mk1 (shut_bool Tryd.underlying4 _), (trodAll_cons_mk (Below.trod laidOut (by kernel_rfl) (of_decide_eq_true (by kernel_rfl)) hk0 bel lt0) (trodAll_cons_mk (Below.trod laidOut (by kernel_rfl) (of_decide_eq_true (by kernel_rfl)) hk1 bel lt1) (trodAll_cons_mk (Below.trod laidOut (by kernel_rfl) (of_decide_eq_true (by kernel_rfl)) hk2 bel lt2) (trodAll_cons_mk (Below.trod laidOut (by kernel_rfl) (of_decide_eq_true (by kernel_rfl)) hk3 bel lt3) trodAll_mk0)))), rfl, bel.frame _, fun h => by cases h⟩
set_option maxRecDepth 100000 in
theorem over : Rows.versionRawRow.holds Tryd.pinned (OpenSpec.ofChange Rows.versionRawSpec) :=
  OpenClaim.holds_of_wide 11 Tryd.f11 rfl rfl rfl rfl rfl rfl rfl ⟨rfl, rfl, rfl, rfl, rfl⟩ rfl rfl rfl rfl rfl (by kernel_rfl) Tryd.func11 (by kernel_rfl) (of_decide_eq_true (by kernel_rfl))
    (by unfold Func.isWrapper; first | (rw [if_pos (by decide +kernel)]; kernel_rfl) | (rw [if_neg (by decide +kernel)]; exact ⟨rfl, rfl⟩))
    (fun os started H enc _ => lifted os started H enc)
end Go.Proofs.YteilnbnnhocciaaDoor.V
namespace Go.Proofs.YteilnbnnhocciaaDoor
theorem versionRaw_holds : Rows.VersionRawSaid := V.over
end Go.Proofs.YteilnbnnhocciaaDoor

/-! V24 -/
namespace Go.Proofs.YteilnbnnhocciaaDoor
open Go
theorem versionRawCard_holds : Rows.VersionRawCardSaid :=
  Claim7.holds_tied_plain_at .later [] [.data, .data, .data] true (true, "bc9cca30e6bcb58c3d7b40caaba0da34bdf01bc2fab1082ae4b270bbcf37ee66") true
    versionRaw_holds (fun _ h => by cases h) (by kernel_rfl) (fun _ h => by cases h) versionRaw_row_tie rfl ⟨rfl, rfl⟩ (by kernel_rfl) rfl
    (fun f fn hf hfn => by
      obtain rfl : f = 11 := Option.some.inj ((show Tryd.prog.funcNamed "bourse/bourselaw13.VersionRaw" = some 11 by kernel_rfl).symm.trans hf) |>.symm
      obtain rfl : fn = Tryd.f11 := (Option.some.inj (Tryd.func11.symm.trans hfn)).symm
      exact ⟨by kernel_rfl, fun j t ht => by
        rw [Tryd.params11] at ht
        have h3 : t = 76 := by
          rcases j with _ | _ | _ | _ | j
          · simpa using ht.symm
          · simpa using ht.symm
          · simpa using ht.symm
          · simpa using ht.symm
          · simp at ht
        subst h3
        exact (show Tryd.prog.wantsStandIn 76 = false by kernel_rfl)⟩)
    (by kernel_rfl)
#print axioms versionRawCard_holds
end Go.Proofs.YteilnbnnhocciaaDoor
