/- EditNames is true for every input: the card, tied (part 3 of 3; packed by program out of the texts named below) -/
import Derived.Test.YteilnbnnhocciaaDoorXB2
import Derived.Test.YteilnbnnhocciaaDoorRows
import Derived.Lib.LaidIn
import Derived.Lib.LaidTab
import Derived.Stop.LaidErr
import Derived.ChangeArms
import Derived.ChangeSame
import Derived.ChangeVars
import Derived.JoinedOf
import Derived.RowKit
import Derived.WalkKit
import Derived.ProofKit
import Derived.OpenShut
import Derived.ShutString
import Derived.ChangeOld
import Derived.Below
import Derived.SizedLaws
import Derived.DataReads
import Derived.WideShapes
import Derived.Test.YteilnbnnhocciaaDoorTie
import Derived.Test.YteilnbnnhocciaaDoorCards
import Derived.SevenTiedAt

/-! K11 -/
namespace Go.Proofs.YteilnbnnhocciaaDoor.K
open Go.RowKit Go.Proofs.YteilnbnnhocciaaDoorW.PrintWords Go.Proofs.YteilnbnnhocciaaDoorW.PrintLast Go.Proofs.YteilnbnnhocciaaDoorW.PrintMore Go.Proofs.YteilnbnnhocciaaDoorM
attribute [local go_sem] max2_int min2_int max_two min_two max_three min_three max_four min_four
set_option linter.unusedVariables false
set_option linter.unusedSimpArgs false
def IsS171 (w0 W : World) (g : Nat) (f0 : ByteArray) (f1 : Int) (f2 : Int) : Prop := W.heap[g]? = some (.cells #[.string f0, .int .i64 f1, .int .i64 f2] 171 (0, 0)) ∧ w0.heap.size ≤ g
theorem IsS171.grown {w0 W : World} {g : Nat} {f0 : ByteArray} {f1 : Int} {f2 : Int} {W1 : World} {row : Option Nat} (h : IsS171 w0 W g f0 f1 f2) (hw : W.grownBy W1 row) (hne : some g ≠ row) : IsS171 w0 W1 g f0 f1 f2 := by
  obtain ⟨hb, hg⟩ := h
  exact ⟨blk_grown hb hw hne, hg⟩
theorem IsS171.kept {w0 W : World} {g : Nat} {f0 : ByteArray} {f1 : Int} {f2 : Int} {W1 : World} {S : Nat → Prop} (h : IsS171 w0 W g f0 f1 f2) (hk : Kept W W1 S) (hne : ¬ S g) : IsS171 w0 W1 g f0 f1 f2 := by
  obtain ⟨hb, hg⟩ := h
  exact ⟨blk_kept hb hk hne, hg⟩
theorem IsS171.below {w0 W : World} {g : Nat} {f0 : ByteArray} {f1 : Int} {f2 : Int} {W1 : World} (h : IsS171 w0 W g f0 f1 f2) (hw : Below W.heap.size W W1) : IsS171 w0 W1 g f0 f1 f2 := h.grown (grown_of_below hw none) (by simp)
theorem IsS171.alloc {w0 W : World} {g : Nat} {f0 : ByteArray} {f1 : Int} {f2 : Int} (h : IsS171 w0 W g f0 f1 f2) (o : Obj) : IsS171 w0 (W.alloc o) g f0 f1 f2 := h.below (below_alloc (Below.refl _ _) o)
theorem IsS171.drewN {w0 W : World} {g : Nat} {f0 : ByteArray} {f1 : Int} {f2 : Int} (h : IsS171 w0 W g f0 f1 f2) (m : Nat) : IsS171 w0 (W.drewN m) g f0 f1 f2 := h
theorem IsS171.drew {w0 W : World} {g : Nat} {f0 : ByteArray} {f1 : Int} {f2 : Int} (h : IsS171 w0 W g f0 f1 f2) : IsS171 w0 W.drew g f0 f1 f2 := h
theorem IsS171.at_ {w0 W : World} {g : Nat} {f0 : ByteArray} {f1 : Int} {f2 : Int} {w' : World} {m : Nat} (hq : W.drewN m = w') (h : IsS171 w0 W g f0 f1 f2) : IsS171 w0 w' g f0 f1 f2 := by subst hq; exact IsS171.drewN h m
theorem IsS171.apart {w0 W : World} {g : Nat} {f0 : ByteArray} {f1 : Int} {f2 : Int} {α : Type} {d : Kd α} {e : Nat} {base : Nat} {ok : Nat → Prop} {v : Value} {xs : List α} (h : IsS171 w0 W g f0 f1 f2) (ho : d.R e W base ok v xs) (ht : ∀ q, q ∈ e :: d.E → q ≠ 171) : d.R e W base (fun k => ok k ∧ k ≠ g) v xs := by
  obtain ⟨hb, hg⟩ := h
  exact Kd.R_types ho hb ht
theorem IsS171.own_ne {w0 W : World} {g : Nat} {f0 : ByteArray} {f1 : Int} {f2 : Int} {α : Type} {d : Kd α} {e : Nat} {base : Nat} {ok : Nat → Prop} {v : Value} {xs : List α} (h : IsS171 w0 W g f0 f1 f2) (ho : d.R e W base ok v xs) (ht : e ≠ 171) : some g ≠ v.ownBlock := by
  obtain ⟨hb, hg⟩ := h
  exact Kd.R_ne ho hb ht
theorem IsS171.lt {w0 W : World} {g : Nat} {f0 : ByteArray} {f1 : Int} {f2 : Int} (h : IsS171 w0 W g f0 f1 f2) : g < W.heap.size := by
  obtain ⟨hb, hg⟩ := h
  exact blk_lt hb
theorem IsS171.ge {w0 W : World} {g : Nat} {f0 : ByteArray} {f1 : Int} {f2 : Int} (h : IsS171 w0 W g f0 f1 f2) : w0.heap.size ≤ g := by
  obtain ⟨hb, hg⟩ := h
  exact hg
theorem IsS171.far {w0 W : World} {g : Nat} {f0 : ByteArray} {f1 : Int} {f2 : Int} {p : Addr} (h : IsS171 w0 W g f0 f1 f2) (hne : g ≠ p.block) (u : Value) : IsS171 w0 (W.setCell p u) g f0 f1 f2 := by
  obtain ⟨hb, hg⟩ := h
  exact ⟨blk_far hb hne u, hg⟩
theorem cellS171_0 {W : World} {g : Nat} {f0 : ByteArray} {f1 : Int} {f2 : Int} (h : W.heap[g]? = some (.cells #[.string f0, .int .i64 f1, .int .i64 f2] 171 (0, 0))) : W.cell? ⟨g, 0, none⟩ = some (.string f0) := (blk_cell h 0).trans rfl
theorem IsS171.set_0 {w0 W : World} {g : Nat} {f0 : ByteArray} {f1 : Int} {f2 : Int} (h : IsS171 w0 W g f0 f1 f2) (x : ByteArray) : IsS171 w0 (W.setCell ⟨g, 0, none⟩ (.string x)) g x f1 f2 := by
  obtain ⟨hb, hg⟩ := h
  exact ⟨by simpa using blk_set hb 0 (.string x), hg⟩
theorem cellS171_1 {W : World} {g : Nat} {f0 : ByteArray} {f1 : Int} {f2 : Int} (h : W.heap[g]? = some (.cells #[.string f0, .int .i64 f1, .int .i64 f2] 171 (0, 0))) : W.cell? ⟨g, 1, none⟩ = some (.int .i64 f1) := (blk_cell h 1).trans rfl
theorem IsS171.set_1 {w0 W : World} {g : Nat} {f0 : ByteArray} {f1 : Int} {f2 : Int} (h : IsS171 w0 W g f0 f1 f2) (x : Int) : IsS171 w0 (W.setCell ⟨g, 1, none⟩ (.int .i64 x)) g f0 x f2 := by
  obtain ⟨hb, hg⟩ := h
  exact ⟨by simpa using blk_set hb 1 (.int .i64 x), hg⟩
theorem cellS171_2 {W : World} {g : Nat} {f0 : ByteArray} {f1 : Int} {f2 : Int} (h : W.heap[g]? = some (.cells #[.string f0, .int .i64 f1, .int .i64 f2] 171 (0, 0))) : W.cell? ⟨g, 2, none⟩ = some (.int .i64 f2) := (blk_cell h 2).trans rfl
theorem IsS171.set_2 {w0 W : World} {g : Nat} {f0 : ByteArray} {f1 : Int} {f2 : Int} (h : IsS171 w0 W g f0 f1 f2) (x : Int) : IsS171 w0 (W.setCell ⟨g, 2, none⟩ (.int .i64 x)) g f0 f1 x := by
  obtain ⟨hb, hg⟩ := h
  exact ⟨by simpa using blk_set hb 2 (.int .i64 x), hg⟩
def varint_Over.f (a0 : ByteArray) : Option (ByteArray × Int × Int) := some (a0, 0, 0)
set_option maxHeartbeats 8000000 in
set_option maxRecDepth 100000 in
theorem varint_Over.calls (a0 : ByteArray) (r1 : ByteArray) (r2 : Int) (r3 : Int) (w0 w : World) (hB : Below w0.heap.size w0 w) (h : varint_Over.f a0 = some (r1, r2, r3)) :
    Calls Tryd.prog 55 #[.string a0] w fun e w' => ∃ g_ : Nat, e = .returned (.pointer (some ⟨g_, 0, none⟩)) ∧ IsS171 w0 w' g_ r1 r2 r3 ∧ Below w0.heap.size w0 w' ∧ Below w.heap.size w w' := by
  have hu171 := Tryd.underlying171
  have HBW := Aside0.mk (Below.refl w.heap.size w)
  have HW0 := Aside0.mk hB.size
  have HB := Aside0.mk hB
  clear hB
  have H : (some (a0, 0, 0)) = some (r1, r2, r3) := h
  clear h
  simp only [Option.some.injEq, Prod.mk.injEq] at H
  obtain ⟨rfl, rfl, rfl⟩ := H
  go_enter Tryd.func55, Tryd.ntmps55
  go_wp2_with (first | ((with_reducible refine gate_dst (N := 5) rfl ?_); refine box_event ?hg (N := 5) ?hd (cs := #[.string a0, .int .i64 0, .int .i64 0]) (t := 171) ?hr ?_; (case hd => rfl); (case hg => rfl); (case hr => first | (go_simp; done) | (go_simp; rfl)); intro gb126 hg w2 hbox hb; have n0_ := Aside0.mk (below_step HBW.out hb); have n1_ := Aside0.mk (below_step (by repeat (first | (with_reducible first | exact HB.out | apply below_alloc | apply pw_below_drewN | apply below_drew1) | exact HB.out)) hb); have n2_ := Aside0.mk (hbox); have n3_ := Aside0.mk ((by rw [hg]; exact (below_size (by repeat (first | (with_reducible first | exact HBW.out | apply below_alloc | apply pw_below_drewN | apply below_drew1) | exact HBW.out))) : w.heap.size ≤ gb126)); have n4_ := Aside0.mk ((Nat.le_trans HW0.out (by rw [hg]; exact (below_size (by repeat (first | (with_reducible first | exact HBW.out | apply below_alloc | apply pw_below_drewN | apply below_drew1) | exact HBW.out))) : w.heap.size ≤ gb126) : w0.heap.size ≤ gb126)); clear HBW; clear HB; have HBW := n0_; have HB := n1_; have BK126 := n2_; have GW126 := n3_; have GE126 := n4_; clear n0_ n1_ n2_ n3_ n4_; clear hb hbox hg))
  go_ret
  exact ⟨_, rfl, (show IsS171 w0 _ gb126 a0 0 0 from ⟨by (with_reducible repeat (first | refine blk_drewN ?_ _ | refine blk_drew ?_ | refine blk_alloc ?_ _)); exact BK126.out, GE126.out⟩), by repeat (first | (with_reducible first | exact HB.out | apply below_alloc | apply pw_below_drewN | apply below_drew1 | refine below_set ?_ GE126.out) | exact HB.out), by repeat (first | (with_reducible first | exact HBW.out | apply below_alloc | apply pw_below_drewN | apply below_drew1 | refine below_set ?_ GW126.out) | exact HBW.out)⟩
end Go.Proofs.YteilnbnnhocciaaDoor.K

/-! K12 -/
namespace Go.Proofs.YteilnbnnhocciaaDoor.K
open Go.RowKit Go.Proofs.YteilnbnnhocciaaDoorW.PrintWords Go.Proofs.YteilnbnnhocciaaDoorW.PrintLast Go.Proofs.YteilnbnnhocciaaDoorW.PrintMore Go.Proofs.YteilnbnnhocciaaDoorM
attribute [local go_sem] max2_int min2_int max_two min_two max_three min_three max_four min_four
set_option linter.unusedVariables false
set_option linter.unusedSimpArgs false
def varint_Reader_ok.f (s0_0 : ByteArray) (s0_1 : Int) (s0_2 : Int) : Option (Bool × ByteArray × Int × Int) := some ((s0_2 == 0), s0_0, s0_1, s0_2)
set_option maxHeartbeats 8000000 in
set_option maxRecDepth 100000 in
theorem varint_Reader_ok.calls (g : Nat) (s0_0 : ByteArray) (s0_1 : Int) (s0_2 : Int) (r1 : Bool) (r2 : ByteArray) (r3 : Int) (r4 : Int) (w0 w : World) (hI : IsS171 w0 w g s0_0 s0_1 s0_2) (hB : Below w0.heap.size w0 w) (h : varint_Reader_ok.f s0_0 s0_1 s0_2 = some (r1, r2, r3, r4)) :
    Calls Tryd.prog 106 #[.pointer (some ⟨g, 0, none⟩)] w fun e w' => e = .returned (.bool r1) ∧ IsS171 w0 w' g r2 r3 r4 ∧ Below w0.heap.size w0 w' ∧ KeepBut w w' g none := by
  have HI0 := Aside0.mk hI
  have HK := Aside0.mk (KeepBut.refl w g none)
  have HL := Aside0.mk hB.size
  clear hI
  have HW0 := Aside0.mk hB.size
  have HB := Aside0.mk hB
  clear hB
  have H : (some ((s0_2 == 0), s0_0, s0_1, s0_2)) = some (r1, r2, r3, r4) := h
  clear h
  simp only [Option.some.injEq, Prod.mk.injEq] at H
  obtain ⟨rfl, rfl, rfl, rfl⟩ := H
  obtain ⟨HGz2, hgz2⟩ := HI0.out
  have hcz2_0 := cellS171_0 HGz2
  have hcz2_1 := cellS171_1 HGz2
  have hcz2_2 := cellS171_2 HGz2
  have hfz2_0 := blk_frozen HGz2 0
  have hfz2_1 := blk_frozen HGz2 1
  have hfz2_2 := blk_frozen HGz2 2
  clear HGz2 hgz2
  go_enter Tryd.func106, Tryd.ntmps106
  go_wp2
  go_ret
  exact ⟨by first | rfl | (simp [errW_none, errW_some] <;> rfl) | (simp [*, errW_none, errW_some] <;> rfl), by repeat (first | (with_reducible first | exact HI0.out | apply IsS171.alloc | apply IsS171.drewN | apply IsS171.drew | apply IsS171.set_0 | apply IsS171.set_1 | apply IsS171.set_2) | exact HI0.out), by repeat (first | (with_reducible first | exact HB.out | apply below_alloc | apply pw_below_drewN | apply below_drew1 | refine below_set ?_ (IsS171.ge HI0.out)) | exact HB.out), by repeat (first | (with_reducible first | exact HK.out | apply KeepBut.set_ | apply keep_drewN | apply keep_drew | apply keep_alloc) | exact HK.out)⟩
end Go.Proofs.YteilnbnnhocciaaDoor.K

/-! K13 -/
namespace Go.Proofs.YteilnbnnhocciaaDoor.K
open Go.RowKit Go.Proofs.YteilnbnnhocciaaDoorW.PrintWords Go.Proofs.YteilnbnnhocciaaDoorW.PrintLast Go.Proofs.YteilnbnnhocciaaDoorW.PrintMore Go.Proofs.YteilnbnnhocciaaDoorM
attribute [local go_sem] max2_int min2_int max_two min_two max_three min_three max_four min_four
set_option linter.unusedVariables false
set_option linter.unusedSimpArgs false
def varint_Reader_scan.sh (c : Int) (i : Nat) : Int := IntKind.u64.wrap (IntKind.u64.wrap (Go.bits .and .u8 c 127) * 2 ^ (7 * i))
def varint_Reader_scan.l : Nat → ByteArray → Nat → Int → Nat → Option (Int × Int × Int)
  | 0, _, _, _, _ => none
  | k + 1, s, at_, n, i =>
    if s.size ≤ at_ + i then some (0, 0, 3) else
    if i = 9 ∧ 1 < bt s (at_ + i : Nat) then some (0, 0, 8) else
    if 128 ≤ bt s (at_ + i : Nat) then varint_Reader_scan.l k s at_ (Go.bits .or .u64 n (varint_Reader_scan.sh (bt s (at_ + i : Nat)) i)) (i + 1) else
    if bt s (at_ + i : Nat) = 0 ∧ 0 < i then some (0, 0, 4) else
    some (Go.bits .or .u64 n (varint_Reader_scan.sh (bt s (at_ + i : Nat)) i), ((at_ + (i + 1) : Nat) : Int), 0)
def varint_Reader_scan.f (s0_0 : ByteArray) (s0_1 : Int) (s0_2 : Int) : Option (Int × Int × Int × ByteArray × Int × Int) :=
  if 0 ≤ s0_1 ∧ s0_1 ≤ s0_0.size ∧ s0_0.size ≤ 140737488351232 then (varint_Reader_scan.l 11 s0_0 s0_1.toNat 0 0).bind fun t => some (t.1, t.2.1, t.2.2, s0_0, s0_1, s0_2) else none
def varint_Reader_scan.Post (w0 w : World) (g : Nat) (s0 : ByteArray) (s1 s2 : Int) (t : Int × Int × Int) (e : Ending) (w' : World) : Prop :=
  e = .returned (.tuple #[.int .u64 t.1, .int .i64 t.2.1, .int .i64 t.2.2]) ∧ Drawn0 w w'
def varint_Reader_scan.J (w : World) (g : Nat) (s0 : ByteArray) (p : Nat) (t : Int × Int × Int) (a' : Act) (w' : World) : Prop := Drawn0 w w' ∧ ∃ (k : Nat) (n : Int) (i : Nat) (u7 u8 u9 u10 u11 u12 u13 u14 u15 u16 u17 u18 u19 u20 u21 u22 u23 u24 u25 u26 u27 u28 u29 u30 u31 u32 u33 u34 u35 u36 u37 u38 u39 u40 u41 u42 u43 u44 u45 u46 u47 u48 u49 u50 u51 u52 u53 u54 u55 u56 u57 u58 u59 u60 u61 : Value),
  a' = { tmps := #[.pointer (some ⟨g, 0, none⟩), undef, .int .u64 0, .int .i64 0, .int .i64 0, .int .u64 n, .int .i64 (i : Nat), u7, u8, u9, u10, u11, u12, u13, u14, u15, u16, u17, u18, u19, u20, u21, u22, u23, u24, u25, u26, u27, u28, u29, u30, u31, u32, u33, u34, u35, u36, u37, u38, u39, u40, u41, u42, u43, u44, u45, u46, u47, u48, u49, u50, u51, u52, u53, u54, u55, u56, u57, u58, u59, u60, u61], defers := [] } ∧ i ≤ 9 ∧ varint_Reader_scan.l k s0 p n i = some t ∧ k + i = 11
set_option maxHeartbeats 2000000 in
set_option maxRecDepth 100000 in
theorem varint_Reader_scan.walk (g : Nat) (s0 : ByteArray) (p : Nat) (s2 : Int) (t : Int × Int × Int) (w0 w : World) (hI : IsS171 w0 w g s0 p s2) (h : varint_Reader_scan.l 11 s0 p 0 0 = some t) (hp : p ≤ s0.size) (hs : s0.size ≤ 140737488351232) :
    Calls Tryd.prog 107 #[.pointer (some ⟨g, 0, none⟩)] w (varint_Reader_scan.Post w0 w g s0 p s2 t) := by
  have H := Hush.mk h
  clear h
  have c0 := cellS171_0 hI.1
  have c1 := cellS171_1 hI.1
  have hI' := Hush.mk hI
  clear hI
  go_enter Tryd.func107, Tryd.ntmps107
  go_wp2
  refine wp_scope_first 0 (varint_Reader_scan.J w g s0 p t) (fun a' _ => 10 - (intOf (a'.tmps.getD 6 undef)).toNat) rfl ?pass ?first
  case first =>
    intro hq
    go_wp2
    go_step3
    have hj : varint_Reader_scan.J w g s0 p t { tmps := #[.pointer (some ⟨g, 0, none⟩), undef, .int .u64 0, .int .i64 0, .int .i64 0, .int .u64 0, .int .i64 0, undef, undef, undef, undef, undef, undef, undef, undef, undef, undef, undef, undef, undef, undef, undef, undef, undef, undef, undef, undef, undef, undef, undef, undef, undef, undef, undef, undef, undef, undef, undef, undef, undef, undef, undef, undef, undef, undef, undef, undef, undef, undef, undef, undef, undef, undef, undef, undef, undef, undef, undef, undef, undef, undef, undef], defers := [] } w :=
      ⟨Drawn0.refl _, 11, 0, 0, _, _, _, _, _, _, _, _, _, _, _, _, _, _, _, _, _, _, _, _, _, _, _, _, _, _, _, _, _, _, _, _, _, _, _, _, _, _, _, _, _, _, _, _, _, _, _, _, _, _, _, _, _, _, _, rfl, by omega, H.out, rfl⟩
    exact (by assumption : ∀ a w, Code.wp _ _ _ a w → _) _ _ (hq.out _ _ hj)
  case pass =>
    rintro a' w' ⟨hd, k, n, i, u7, u8, u9, u10, u11, u12, u13, u14, u15, u16, u17, u18, u19, u20, u21, u22, u23, u24, u25, u26, u27, u28, u29, u30, u31, u32, u33, u34, u35, u36, u37, u38, u39, u40, u41, u42, u43, u44, u45, u46, u47, u48, u49, u50, u51, u52, u53, u54, u55, u56, u57, u58, u59, u60, u61, rfl, hi9, hl, hk⟩
    obtain ⟨k, rfl⟩ : ∃ k', k = k' + 1 := ⟨k - 1, by omega⟩
    rw [varint_Reader_scan.l] at hl
    obtain ⟨nd, rfl⟩ := hd.out
    by_cases hlt : s0.size ≤ p + i
    · rw [if_pos hlt] at hl
      have HL := Hush.mk hl
      clear hl
      go_wp2
      go_quiet (fail)
      go_wp2
      simp only [Exit.jump]
      go_ret3
      obtain rfl := Option.some.inj HL.out
      exact ⟨rfl, ⟨⟨_, rfl⟩⟩⟩
    · rw [if_neg hlt] at hl
      have HL := Hush.mk hl
      clear hl
      have hlt' : p + i < s0.size := by omega
      have hw1 : IntKind.i64.wrap ((p : Int) + (i : Int)) = (p : Int) + (i : Int) := IntWalk.i64_in _ (by omega)
      have hix : ∀ W, (Instr.index 9 (.string s0) (.int .i64 ((p : Int) + (i : Int)))).run Tryd.prog W = .ok (.int .u8 (bt s0 ((p + i : Nat) : Int))) W := by
        intro W
        rw [run_index_string W 9 s0 .i64 _ Tryd.underlying9, dif_pos ⟨by omega, by omega⟩, bt_at s0 ((p : Int) + (i : Int)) (by omega)]
        simp
      obtain ⟨c, hc⟩ : ∃ c, c = bt s0 ((p + i : Nat) : Int) := ⟨_, rfl⟩
      have hcr := bt_range s0 ((p + i : Nat) : Int)
      rw [← hc] at hix hcr
      have HL' : Hush ((if i = 9 ∧ 1 < c then some (0, 0, 8) else if 128 ≤ c then varint_Reader_scan.l k s0 p (Go.bits .or .u64 n (varint_Reader_scan.sh c i)) (i + 1) else if c = 0 ∧ 0 < i then some (0, 0, 4) else some (Go.bits .or .u64 n (varint_Reader_scan.sh c i), ((p + (i + 1) : Nat) : Int), 0)) = some t) := ⟨by rw [hc]; exact HL.out⟩
      clear HL hc
      obtain ⟨hc0, hc255⟩ := hcr
      by_cases hA : i = 9 ∧ 1 < c
      · have HL : Hush (some ((0 : Int), (0 : Int), (8 : Int)) = some t) := ⟨(if_pos hA).symm.trans HL'.out⟩
        have e9 : ((i : Int) == 9) = true := by rw [hA.1]; rfl
        have e1 := hA.2
        clear HL' hA
        go_wp2
        go_quiet (fail)
        go_wp2
        go_quiet (fail)
        go_wp2
        simp only [Exit.jump]
        go_ret3
        obtain rfl := Option.some.inj HL.out
        exact ⟨rfl, ⟨⟨_, rfl⟩⟩⟩
      have HL2 := Hush.mk ((if_neg hA).symm.trans HL'.out)
      clear HL'
      by_cases hB : 128 ≤ c
      · have HL := Hush.mk ((if_pos hB).symm.trans HL2.out)
        have e9 : ((i : Int) == 9) = false := by simp; omega
        have hi8 : i ≤ 8 := by omega
        clear HL2 hA
        go_wp2
        go_quiet (fail)
        go_wp2
        go_quiet (fail)
        go_wp2
        go_step3
        refine ⟨rfl, ⟨⟨⟨_, rfl⟩⟩, k, _, i + 1, _, _, _, _, _, _, _, _, _, _, _, _, _, _, _, _, _, _, _, _, _, _, _, _, _, _, _, _, _, _, _, _, _, _, _, _, _, _, _, _, _, _, _, _, _, _, _, _, _, _, _, _, _, _, _, rfl, by omega, HL.out, by omega⟩, by simp [intOf]; omega⟩
      have HL3 := Hush.mk ((if_neg hB).symm.trans HL2.out)
      clear HL2
      have hB' : c < 128 := by omega
      clear hB
      by_cases hC : c = 0 ∧ 0 < i
      · have HL := Hush.mk ((if_pos hC).symm.trans HL3.out)
        have e0 : (c == 0) = true := by rw [hC.1]; rfl
        have e1 : c ≤ 1 := by omega
        have ei := hC.2
        clear HL3 hA hC
        go_wp2
        go_quiet (fail)
        go_wp2
        go_quiet (fail)
        go_wp2
        all_goals
          simp only [Exit.jump]
          go_ret3
          obtain rfl := Option.some.inj HL.out
          exact ⟨rfl, ⟨⟨_, rfl⟩⟩⟩
      have HL := Hush.mk ((if_neg hC).symm.trans HL3.out)
      clear HL3
      by_cases hD : c = 0
      · have e0 : (c == 0) = true := by rw [hD]; rfl
        have e1 : c ≤ 1 := by omega
        have ei : i ≤ 0 := by omega
        have e9 : ((i : Int) == 9) = false := by simp; omega
        clear hA hC hD
        go_wp2
        go_quiet (fail)
        go_wp2
        go_quiet (fail)
        go_wp2
        go_quiet (fail)
        go_wp2
        simp only [Exit.jump]
        go_ret3
        obtain rfl := Option.some.inj HL.out
        exact ⟨rfl, ⟨⟨_, rfl⟩⟩⟩
      have e0 : (c == 0) = false := by simp [hD]
      by_cases hE : i = 9
      · have e9 : ((i : Int) == 9) = true := by rw [hE]; rfl
        have e1 : c ≤ 1 := by omega
        clear hA hC hD hE
        go_wp2
        go_quiet (fail)
        go_wp2
        go_quiet (fail)
        go_wp2
        go_quiet (fail)
        go_wp2
        simp only [Exit.jump]
        go_ret3
        obtain rfl := Option.some.inj HL.out
        exact ⟨rfl, ⟨⟨_, rfl⟩⟩⟩
      · have e9 : ((i : Int) == 9) = false := by simp; omega
        clear hA hC hD hE
        go_wp2
        go_quiet (fail)
        go_wp2
        go_quiet (fail)
        go_wp2
        go_quiet (fail)
        go_wp2
        simp only [Exit.jump]
        go_ret3
        obtain rfl := Option.some.inj HL.out
        exact ⟨rfl, ⟨⟨_, rfl⟩⟩⟩
theorem varint_Reader_scan.calls (g : Nat) (s0_0 : ByteArray) (s0_1 : Int) (s0_2 : Int) (r1 : Int) (r2 : Int) (r3 : Int) (r4 : ByteArray) (r5 : Int) (r6 : Int) (w0 w : World) (hI : IsS171 w0 w g s0_0 s0_1 s0_2) (hB : Below w0.heap.size w0 w) (h : varint_Reader_scan.f s0_0 s0_1 s0_2 = some (r1, r2, r3, r4, r5, r6)) :
    Calls Tryd.prog 107 #[.pointer (some ⟨g, 0, none⟩)] w fun e w' => e = .returned (.tuple #[.int .u64 r1, .int .i64 r2, .int .i64 r3]) ∧ IsS171 w0 w' g r4 r5 r6 ∧ Below w0.heap.size w0 w' ∧ KeepBut w w' g none := by
  unfold varint_Reader_scan.f at h
  by_cases hc : 0 ≤ s0_1 ∧ s0_1 ≤ s0_0.size ∧ s0_0.size ≤ 140737488351232
  · rw [if_pos hc] at h
    obtain ⟨t, ht, h⟩ := Option.bind_eq_some_iff.mp h
    obtain ⟨h0, h1, h2⟩ := hc
    simp only [Option.some.injEq, Prod.mk.injEq] at h
    obtain ⟨rfl, rfl, rfl, rfl, rfl, rfl⟩ := h
    obtain ⟨p, rfl⟩ := Int.eq_ofNat_of_zero_le h0
    refine (varint_Reader_scan.walk g s0_0 p s0_2 t w0 w hI (by simpa using ht) (by omega) h2).mono ?_
    rintro e w' ⟨rfl, hd⟩
    obtain ⟨nd, rfl⟩ := hd.out
    exact ⟨rfl, hI.drewN nd, pw_below_drewN hB nd, keep_drewN (KeepBut.refl w g none) nd⟩
  · rw [if_neg hc] at h
    cases h
end Go.Proofs.YteilnbnnhocciaaDoor.K

/-! K14 -/
namespace Go.Proofs.YteilnbnnhocciaaDoor.K
open Go.RowKit Go.Proofs.YteilnbnnhocciaaDoorW.PrintWords Go.Proofs.YteilnbnnhocciaaDoorW.PrintLast Go.Proofs.YteilnbnnhocciaaDoorW.PrintMore Go.Proofs.YteilnbnnhocciaaDoorM
attribute [local go_sem] max2_int min2_int max_two min_two max_three min_three max_four min_four
set_option linter.unusedVariables false
set_option linter.unusedSimpArgs false
def varint_Reader_Num.f (s0_0 : ByteArray) (s0_1 : Int) (s0_2 : Int) : Option (Int × ByteArray × Int × Int) := (varint_Reader_ok.f s0_0 s0_1 s0_2).bind fun bt127 => (if bt127.1 = true then ((varint_Reader_scan.f bt127.2.1 bt127.2.2.1 bt127.2.2.2).bind fun bt131 => (if bt131.2.2.1 = 0 then (some (bt131.1, bt131.2.2.2.1, bt131.2.1, bt131.2.2.2.2.2)) else (some (0, bt131.2.2.2.1, bt131.2.2.2.2.1, bt131.2.2.1)))) else (some (0, bt127.2.1, bt127.2.2.1, bt127.2.2.2)))
set_option maxHeartbeats 8000000 in
set_option maxRecDepth 100000 in
theorem varint_Reader_Num.calls (g : Nat) (s0_0 : ByteArray) (s0_1 : Int) (s0_2 : Int) (r1 : Int) (r2 : ByteArray) (r3 : Int) (r4 : Int) (w0 w : World) (hI : IsS171 w0 w g s0_0 s0_1 s0_2) (hB : Below w0.heap.size w0 w) (h : varint_Reader_Num.f s0_0 s0_1 s0_2 = some (r1, r2, r3, r4)) :
    Calls Tryd.prog 56 #[.pointer (some ⟨g, 0, none⟩)] w fun e w' => e = .returned (.int .u64 r1) ∧ IsS171 w0 w' g r2 r3 r4 ∧ Below w0.heap.size w0 w' ∧ KeepBut w w' g none := by
  have HI0 := Aside0.mk hI
  have HK := Aside0.mk (KeepBut.refl w g none)
  have HL := Aside0.mk hB.size
  clear hI
  have HW0 := Aside0.mk hB.size
  have HB := Aside0.mk hB
  clear hB
  have H : ((varint_Reader_ok.f s0_0 s0_1 s0_2).bind fun bt127 => (if bt127.1 = true then ((varint_Reader_scan.f bt127.2.1 bt127.2.2.1 bt127.2.2.2).bind fun bt131 => (if bt131.2.2.1 = 0 then (some (bt131.1, bt131.2.2.2.1, bt131.2.1, bt131.2.2.2.2.2)) else (some (0, bt131.2.2.2.1, bt131.2.2.2.2.1, bt131.2.2.1)))) else (some (0, bt127.2.1, bt127.2.2.1, bt127.2.2.2)))) = some (r1, r2, r3, r4) := h
  clear h
  replace H := Option.bind_eq_some_iff.mp H
  obtain ⟨⟨t127, t128, t129, t130⟩, A20, H⟩ := H
  replace H : (if t127 = true then ((varint_Reader_scan.f t128 t129 t130).bind fun bt131 => (if bt131.2.2.1 = 0 then (some (bt131.1, bt131.2.2.2.1, bt131.2.1, bt131.2.2.2.2.2)) else (some (0, bt131.2.2.2.1, bt131.2.2.2.2.1, bt131.2.2.1)))) else (some (0, t128, t129, t130))) = some (r1, r2, r3, r4) := H
  have A2 := Aside0.mk A20
  clear A20
  by_cases c3 : t127 = true
  · subst c3
    have H1 : ((varint_Reader_scan.f t128 t129 t130).bind fun bt131 => (if bt131.2.2.1 = 0 then (some (bt131.1, bt131.2.2.2.1, bt131.2.1, bt131.2.2.2.2.2)) else (some (0, bt131.2.2.2.1, bt131.2.2.2.2.1, bt131.2.2.1)))) = some (r1, r2, r3, r4) := by rw [if_pos rfl] at H; exact H
    clear H
    have H := H1
    clear H1
    replace H := Option.bind_eq_some_iff.mp H
    obtain ⟨⟨t131, t132, t133, t134, t135, t136⟩, A40, H⟩ := H
    replace H : (if t133 = 0 then (some (t131, t134, t132, t136)) else (some (0, t134, t135, t133))) = some (r1, r2, r3, r4) := H
    have A4 := Aside0.mk A40
    clear A40
    by_cases c5 : t133 = 0
    · rw [if_pos c5] at H
      have c5b0 : (t133 == 0) = true := beq_iff_eq.mpr c5
      have c5b1 : (t133 != 0) = false := bne_eq_false_iff_eq.mpr c5
      clear c5
      simp only [Option.some.injEq, Prod.mk.injEq] at H
      obtain ⟨rfl, rfl, rfl, rfl⟩ := H
      go_enter Tryd.func56, Tryd.ntmps56
      go_wp2_with (first | ((with_reducible refine gate_callee (f := 106) rfl ?_); refine goesL_ (some 7) rfl rfl Tryd.func106 (by kernel_rfl) rfl #[.pointer (some ⟨g, 0, none⟩)] rfl (by (try simp only [List.map_toArray, List.map_cons, List.map_nil]); first | done | rfl | (simp only [List.length_drop, List.length_take]; rfl)) ?_; (with_reducible refine (varint_Reader_ok.calls g s0_0 s0_1 s0_2 true t128 t129 t130 w0 _ ?side1 ?side2 A2.out).mono ?_); (case side1 => repeat (first | (with_reducible first | exact HI0.out | apply IsS171.alloc | apply IsS171.drewN | apply IsS171.drew | apply IsS171.set_0 | apply IsS171.set_1 | apply IsS171.set_2) | exact HI0.out)); (case side2 => repeat (first | (with_reducible first | exact HB.out | apply below_alloc | apply pw_below_drewN | apply below_drew1 | refine below_set ?_ (IsS171.ge HI0.out)) | exact HB.out)); rintro e w6 ⟨rfl, hi, hb, hk⟩; refine ⟨_, rfl, ?_⟩; have n0_ := Aside0.mk (KeepBut.trans (by repeat (first | (with_reducible first | exact HK.out | apply KeepBut.set_ | apply keep_drewN | apply keep_drew | apply keep_alloc) | exact HK.out)) hk (.inl rfl)); have n1_ := Aside0.mk (hb); have n2_ := Aside0.mk (hi); clear HK; clear HB; clear HI0; have HK := n0_; have HB := n1_; have HI0 := n2_; clear n0_ n1_ n2_; (try clear hb); (try clear hb2); (try clear hk); (try clear hi)) | ((with_reducible refine gate_callee (f := 107) rfl ?_); refine goesL_ (some 11) rfl rfl Tryd.func107 (by kernel_rfl) rfl #[.pointer (some ⟨g, 0, none⟩)] rfl (by (try simp only [List.map_toArray, List.map_cons, List.map_nil]); first | done | rfl | (simp only [List.length_drop, List.length_take]; rfl)) ?_; (with_reducible refine (varint_Reader_scan.calls g t128 t129 t130 t131 t132 t133 t134 t135 t136 w0 _ ?side1 ?side2 A4.out).mono ?_); (case side1 => repeat (first | (with_reducible first | exact HI0.out | apply IsS171.alloc | apply IsS171.drewN | apply IsS171.drew | apply IsS171.set_0 | apply IsS171.set_1 | apply IsS171.set_2) | exact HI0.out)); (case side2 => repeat (first | (with_reducible first | exact HB.out | apply below_alloc | apply pw_below_drewN | apply below_drew1 | refine below_set ?_ (IsS171.ge HI0.out)) | exact HB.out)); rintro e w7 ⟨rfl, hi, hb, hk⟩; refine ⟨_, rfl, ?_⟩; have n0_ := Aside0.mk (KeepBut.trans (by repeat (first | (with_reducible first | exact HK.out | apply KeepBut.set_ | apply keep_drewN | apply keep_drew | apply keep_alloc) | exact HK.out)) hk (.inl rfl)); have n1_ := Aside0.mk (hb); have n2_ := Aside0.mk (hi); clear HK; clear HB; clear HI0; have HK := n0_; have HB := n1_; have HI0 := n2_; clear n0_ n1_ n2_; (try clear hb); (try clear hb2); (try clear hk); (try clear hi); obtain ⟨HGz8, hgz8⟩ := HI0.out; have hcz8_0 := cellS171_0 HGz8; have hcz8_1 := cellS171_1 HGz8; have hcz8_2 := cellS171_2 HGz8; have hfz8_0 := blk_frozen HGz8 0; have hfz8_1 := blk_frozen HGz8 1; have hfz8_2 := blk_frozen HGz8 2; clear HGz8 hgz8))
      go_ret
      exact ⟨by first | rfl | (simp [errW_none, errW_some] <;> rfl) | (simp [*, errW_none, errW_some] <;> rfl), by repeat (first | (with_reducible first | exact HI0.out | apply IsS171.alloc | apply IsS171.drewN | apply IsS171.drew | apply IsS171.set_0 | apply IsS171.set_1 | apply IsS171.set_2) | exact HI0.out), by repeat (first | (with_reducible first | exact HB.out | apply below_alloc | apply pw_below_drewN | apply below_drew1 | refine below_set ?_ (IsS171.ge HI0.out)) | exact HB.out), by repeat (first | (with_reducible first | exact HK.out | apply KeepBut.set_ | apply keep_drewN | apply keep_drew | apply keep_alloc) | exact HK.out)⟩
    · rw [if_neg c5] at H
      have c5b0 : (t133 == 0) = false := beq_eq_false_iff_ne.mpr c5
      have c5b1 : (t133 != 0) = true := bne_iff_ne.mpr c5
      simp only [Option.some.injEq, Prod.mk.injEq] at H
      obtain ⟨rfl, rfl, rfl, rfl⟩ := H
      go_enter Tryd.func56, Tryd.ntmps56
      go_wp2_with (first | ((with_reducible refine gate_callee (f := 106) rfl ?_); refine goesL_ (some 7) rfl rfl Tryd.func106 (by kernel_rfl) rfl #[.pointer (some ⟨g, 0, none⟩)] rfl (by (try simp only [List.map_toArray, List.map_cons, List.map_nil]); first | done | rfl | (simp only [List.length_drop, List.length_take]; rfl)) ?_; (with_reducible refine (varint_Reader_ok.calls g s0_0 s0_1 s0_2 true t128 t129 t130 w0 _ ?side1 ?side2 A2.out).mono ?_); (case side1 => repeat (first | (with_reducible first | exact HI0.out | apply IsS171.alloc | apply IsS171.drewN | apply IsS171.drew | apply IsS171.set_0 | apply IsS171.set_1 | apply IsS171.set_2) | exact HI0.out)); (case side2 => repeat (first | (with_reducible first | exact HB.out | apply below_alloc | apply pw_below_drewN | apply below_drew1 | refine below_set ?_ (IsS171.ge HI0.out)) | exact HB.out)); rintro e w9 ⟨rfl, hi, hb, hk⟩; refine ⟨_, rfl, ?_⟩; have n0_ := Aside0.mk (KeepBut.trans (by repeat (first | (with_reducible first | exact HK.out | apply KeepBut.set_ | apply keep_drewN | apply keep_drew | apply keep_alloc) | exact HK.out)) hk (.inl rfl)); have n1_ := Aside0.mk (hb); have n2_ := Aside0.mk (hi); clear HK; clear HB; clear HI0; have HK := n0_; have HB := n1_; have HI0 := n2_; clear n0_ n1_ n2_; (try clear hb); (try clear hb2); (try clear hk); (try clear hi)) | ((with_reducible refine gate_callee (f := 107) rfl ?_); refine goesL_ (some 11) rfl rfl Tryd.func107 (by kernel_rfl) rfl #[.pointer (some ⟨g, 0, none⟩)] rfl (by (try simp only [List.map_toArray, List.map_cons, List.map_nil]); first | done | rfl | (simp only [List.length_drop, List.length_take]; rfl)) ?_; (with_reducible refine (varint_Reader_scan.calls g t128 t129 t130 t131 t132 t133 t134 t135 t136 w0 _ ?side1 ?side2 A4.out).mono ?_); (case side1 => repeat (first | (with_reducible first | exact HI0.out | apply IsS171.alloc | apply IsS171.drewN | apply IsS171.drew | apply IsS171.set_0 | apply IsS171.set_1 | apply IsS171.set_2) | exact HI0.out)); (case side2 => repeat (first | (with_reducible first | exact HB.out | apply below_alloc | apply pw_below_drewN | apply below_drew1 | refine below_set ?_ (IsS171.ge HI0.out)) | exact HB.out)); rintro e w10 ⟨rfl, hi, hb, hk⟩; refine ⟨_, rfl, ?_⟩; have n0_ := Aside0.mk (KeepBut.trans (by repeat (first | (with_reducible first | exact HK.out | apply KeepBut.set_ | apply keep_drewN | apply keep_drew | apply keep_alloc) | exact HK.out)) hk (.inl rfl)); have n1_ := Aside0.mk (hb); have n2_ := Aside0.mk (hi); clear HK; clear HB; clear HI0; have HK := n0_; have HB := n1_; have HI0 := n2_; clear n0_ n1_ n2_; (try clear hb); (try clear hb2); (try clear hk); (try clear hi); obtain ⟨HGz11, hgz11⟩ := HI0.out; have hcz11_0 := cellS171_0 HGz11; have hcz11_1 := cellS171_1 HGz11; have hcz11_2 := cellS171_2 HGz11; have hfz11_0 := blk_frozen HGz11 0; have hfz11_1 := blk_frozen HGz11 1; have hfz11_2 := blk_frozen HGz11 2; clear HGz11 hgz11))
      go_ret
      exact ⟨by first | rfl | (simp [errW_none, errW_some] <;> rfl) | (simp [*, errW_none, errW_some] <;> rfl), by repeat (first | (with_reducible first | exact HI0.out | apply IsS171.alloc | apply IsS171.drewN | apply IsS171.drew | apply IsS171.set_0 | apply IsS171.set_1 | apply IsS171.set_2) | exact HI0.out), by repeat (first | (with_reducible first | exact HB.out | apply below_alloc | apply pw_below_drewN | apply below_drew1 | refine below_set ?_ (IsS171.ge HI0.out)) | exact HB.out), by repeat (first | (with_reducible first | exact HK.out | apply KeepBut.set_ | apply keep_drewN | apply keep_drew | apply keep_alloc) | exact HK.out)⟩
  · replace c3 := Bool.eq_false_iff.mpr c3
    subst c3
    have H1 : (some (0, t128, t129, t130)) = some (r1, r2, r3, r4) := by rw [if_neg (show ¬ (false = true) by decide)] at H; exact H
    clear H
    have H := H1
    clear H1
    simp only [Option.some.injEq, Prod.mk.injEq] at H
    obtain ⟨rfl, rfl, rfl, rfl⟩ := H
    go_enter Tryd.func56, Tryd.ntmps56
    go_wp2_with (first | ((with_reducible refine gate_callee (f := 106) rfl ?_); refine goesL_ (some 7) rfl rfl Tryd.func106 (by kernel_rfl) rfl #[.pointer (some ⟨g, 0, none⟩)] rfl (by (try simp only [List.map_toArray, List.map_cons, List.map_nil]); first | done | rfl | (simp only [List.length_drop, List.length_take]; rfl)) ?_; (with_reducible refine (varint_Reader_ok.calls g s0_0 s0_1 s0_2 false t128 t129 t130 w0 _ ?side1 ?side2 A2.out).mono ?_); (case side1 => repeat (first | (with_reducible first | exact HI0.out | apply IsS171.alloc | apply IsS171.drewN | apply IsS171.drew | apply IsS171.set_0 | apply IsS171.set_1 | apply IsS171.set_2) | exact HI0.out)); (case side2 => repeat (first | (with_reducible first | exact HB.out | apply below_alloc | apply pw_below_drewN | apply below_drew1 | refine below_set ?_ (IsS171.ge HI0.out)) | exact HB.out)); rintro e w12 ⟨rfl, hi, hb, hk⟩; refine ⟨_, rfl, ?_⟩; have n0_ := Aside0.mk (KeepBut.trans (by repeat (first | (with_reducible first | exact HK.out | apply KeepBut.set_ | apply keep_drewN | apply keep_drew | apply keep_alloc) | exact HK.out)) hk (.inl rfl)); have n1_ := Aside0.mk (hb); have n2_ := Aside0.mk (hi); clear HK; clear HB; clear HI0; have HK := n0_; have HB := n1_; have HI0 := n2_; clear n0_ n1_ n2_; (try clear hb); (try clear hb2); (try clear hk); (try clear hi)))
    go_ret
    exact ⟨by first | rfl | (simp [errW_none, errW_some] <;> rfl) | (simp [*, errW_none, errW_some] <;> rfl), by repeat (first | (with_reducible first | exact HI0.out | apply IsS171.alloc | apply IsS171.drewN | apply IsS171.drew | apply IsS171.set_0 | apply IsS171.set_1 | apply IsS171.set_2) | exact HI0.out), by repeat (first | (with_reducible first | exact HB.out | apply below_alloc | apply pw_below_drewN | apply below_drew1 | refine below_set ?_ (IsS171.ge HI0.out)) | exact HB.out), by repeat (first | (with_reducible first | exact HK.out | apply KeepBut.set_ | apply keep_drewN | apply keep_drew | apply keep_alloc) | exact HK.out)⟩
end Go.Proofs.YteilnbnnhocciaaDoor.K

/-! K15 -/
namespace Go.Proofs.YteilnbnnhocciaaDoor.K
open Go.RowKit Go.Proofs.YteilnbnnhocciaaDoorW.PrintWords Go.Proofs.YteilnbnnhocciaaDoorW.PrintLast Go.Proofs.YteilnbnnhocciaaDoorW.PrintMore Go.Proofs.YteilnbnnhocciaaDoorM
attribute [local go_sem] max2_int min2_int max_two min_two max_three min_three max_four min_four
set_option linter.unusedVariables false
set_option linter.unusedSimpArgs false
def varint_Reader_Fail.f (s0_0 : ByteArray) (s0_1 : Int) (s0_2 : Int) (a1 : Int) : Option (ByteArray × Int × Int) := (varint_Reader_ok.f s0_0 s0_1 s0_2).bind fun bt137 => (if bt137.1 = true then (some (bt137.2.1, bt137.2.2.1, a1)) else (some (bt137.2.1, bt137.2.2.1, bt137.2.2.2)))
set_option maxHeartbeats 8000000 in
set_option maxRecDepth 100000 in
theorem varint_Reader_Fail.calls (g : Nat) (s0_0 : ByteArray) (s0_1 : Int) (s0_2 : Int) (a1 : Int) (r1 : ByteArray) (r2 : Int) (r3 : Int) (w0 w : World) (hI : IsS171 w0 w g s0_0 s0_1 s0_2) (hB : Below w0.heap.size w0 w) (h : varint_Reader_Fail.f s0_0 s0_1 s0_2 a1 = some (r1, r2, r3)) :
    Calls Tryd.prog 108 #[.pointer (some ⟨g, 0, none⟩), .int .i64 a1] w fun e w' => e = .returned (.tuple #[]) ∧ IsS171 w0 w' g r1 r2 r3 ∧ Below w0.heap.size w0 w' ∧ KeepBut w w' g none := by
  have HI0 := Aside0.mk hI
  have HK := Aside0.mk (KeepBut.refl w g none)
  have HL := Aside0.mk hB.size
  clear hI
  have HW0 := Aside0.mk hB.size
  have HB := Aside0.mk hB
  clear hB
  have H : ((varint_Reader_ok.f s0_0 s0_1 s0_2).bind fun bt137 => (if bt137.1 = true then (some (bt137.2.1, bt137.2.2.1, a1)) else (some (bt137.2.1, bt137.2.2.1, bt137.2.2.2)))) = some (r1, r2, r3) := h
  clear h
  replace H := Option.bind_eq_some_iff.mp H
  obtain ⟨⟨t137, t138, t139, t140⟩, A30, H⟩ := H
  replace H : (if t137 = true then (some (t138, t139, a1)) else (some (t138, t139, t140))) = some (r1, r2, r3) := H
  have A3 := Aside0.mk A30
  clear A30
  by_cases c4 : t137 = true
  · subst c4
    have H1 : (some (t138, t139, a1)) = some (r1, r2, r3) := by rw [if_pos rfl] at H; exact H
    clear H
    have H := H1
    clear H1
    simp only [Option.some.injEq, Prod.mk.injEq] at H
    obtain ⟨rfl, rfl, rfl⟩ := H
    go_enter Tryd.func108, Tryd.ntmps108
    go_wp2_with (first | ((with_reducible refine gate_callee (f := 106) rfl ?_); refine goesL_ (some 5) rfl rfl Tryd.func106 (by kernel_rfl) rfl #[.pointer (some ⟨g, 0, none⟩)] rfl (by (try simp only [List.map_toArray, List.map_cons, List.map_nil]); first | done | rfl | (simp only [List.length_drop, List.length_take]; rfl)) ?_; (with_reducible refine (varint_Reader_ok.calls g s0_0 s0_1 s0_2 true t138 t139 t140 w0 _ ?side1 ?side2 A3.out).mono ?_); (case side1 => repeat (first | (with_reducible first | exact HI0.out | apply IsS171.alloc | apply IsS171.drewN | apply IsS171.drew | apply IsS171.set_0 | apply IsS171.set_1 | apply IsS171.set_2) | exact HI0.out)); (case side2 => repeat (first | (with_reducible first | exact HB.out | apply below_alloc | apply pw_below_drewN | apply below_drew1 | refine below_set ?_ (IsS171.ge HI0.out)) | exact HB.out)); rintro e w5 ⟨rfl, hi, hb, hk⟩; refine ⟨_, rfl, ?_⟩; have n0_ := Aside0.mk (KeepBut.trans (by repeat (first | (with_reducible first | exact HK.out | apply KeepBut.set_ | apply keep_drewN | apply keep_drew | apply keep_alloc) | exact HK.out)) hk (.inl rfl)); have n1_ := Aside0.mk (hb); have n2_ := Aside0.mk (hi); clear HK; clear HB; clear HI0; have HK := n0_; have HB := n1_; have HI0 := n2_; clear n0_ n1_ n2_; (try clear hb); (try clear hb2); (try clear hk); (try clear hi); obtain ⟨HGz6, hgz6⟩ := HI0.out; have hcz6_0 := cellS171_0 HGz6; have hcz6_1 := cellS171_1 HGz6; have hcz6_2 := cellS171_2 HGz6; have hfz6_0 := blk_frozen HGz6 0; have hfz6_1 := blk_frozen HGz6 1; have hfz6_2 := blk_frozen HGz6 2; clear HGz6 hgz6))
    first | go_end0 | ((try simp only [Exit.inBlock, Exit.then]); refine bodyPost_ret (results_none rfl _ _ _) rfl ?_)
    exact ⟨by first | rfl | (simp [errW_none, errW_some] <;> rfl) | (simp [*, errW_none, errW_some] <;> rfl), by repeat (first | (with_reducible first | exact HI0.out | apply IsS171.alloc | apply IsS171.drewN | apply IsS171.drew | apply IsS171.set_0 | apply IsS171.set_1 | apply IsS171.set_2) | exact HI0.out), by repeat (first | (with_reducible first | exact HB.out | apply below_alloc | apply pw_below_drewN | apply below_drew1 | refine below_set ?_ (IsS171.ge HI0.out)) | exact HB.out), by repeat (first | (with_reducible first | exact HK.out | apply KeepBut.set_ | apply keep_drewN | apply keep_drew | apply keep_alloc) | exact HK.out)⟩
  · replace c4 := Bool.eq_false_iff.mpr c4
    subst c4
    have H1 : (some (t138, t139, t140)) = some (r1, r2, r3) := by rw [if_neg (show ¬ (false = true) by decide)] at H; exact H
    clear H
    have H := H1
    clear H1
    simp only [Option.some.injEq, Prod.mk.injEq] at H
    obtain ⟨rfl, rfl, rfl⟩ := H
    go_enter Tryd.func108, Tryd.ntmps108
    go_wp2_with (first | ((with_reducible refine gate_callee (f := 106) rfl ?_); refine goesL_ (some 5) rfl rfl Tryd.func106 (by kernel_rfl) rfl #[.pointer (some ⟨g, 0, none⟩)] rfl (by (try simp only [List.map_toArray, List.map_cons, List.map_nil]); first | done | rfl | (simp only [List.length_drop, List.length_take]; rfl)) ?_; (with_reducible refine (varint_Reader_ok.calls g s0_0 s0_1 s0_2 false t138 t139 t140 w0 _ ?side1 ?side2 A3.out).mono ?_); (case side1 => repeat (first | (with_reducible first | exact HI0.out | apply IsS171.alloc | apply IsS171.drewN | apply IsS171.drew | apply IsS171.set_0 | apply IsS171.set_1 | apply IsS171.set_2) | exact HI0.out)); (case side2 => repeat (first | (with_reducible first | exact HB.out | apply below_alloc | apply pw_below_drewN | apply below_drew1 | refine below_set ?_ (IsS171.ge HI0.out)) | exact HB.out)); rintro e w7 ⟨rfl, hi, hb, hk⟩; refine ⟨_, rfl, ?_⟩; have n0_ := Aside0.mk (KeepBut.trans (by repeat (first | (with_reducible first | exact HK.out | apply KeepBut.set_ | apply keep_drewN | apply keep_drew | apply keep_alloc) | exact HK.out)) hk (.inl rfl)); have n1_ := Aside0.mk (hb); have n2_ := Aside0.mk (hi); clear HK; clear HB; clear HI0; have HK := n0_; have HB := n1_; have HI0 := n2_; clear n0_ n1_ n2_; (try clear hb); (try clear hb2); (try clear hk); (try clear hi)))
    first | go_end0 | ((try simp only [Exit.inBlock, Exit.then]); refine bodyPost_ret (results_none rfl _ _ _) rfl ?_)
    exact ⟨by first | rfl | (simp [errW_none, errW_some] <;> rfl) | (simp [*, errW_none, errW_some] <;> rfl), by repeat (first | (with_reducible first | exact HI0.out | apply IsS171.alloc | apply IsS171.drewN | apply IsS171.drew | apply IsS171.set_0 | apply IsS171.set_1 | apply IsS171.set_2) | exact HI0.out), by repeat (first | (with_reducible first | exact HB.out | apply below_alloc | apply pw_below_drewN | apply below_drew1 | refine below_set ?_ (IsS171.ge HI0.out)) | exact HB.out), by repeat (first | (with_reducible first | exact HK.out | apply KeepBut.set_ | apply keep_drewN | apply keep_drew | apply keep_alloc) | exact HK.out)⟩
end Go.Proofs.YteilnbnnhocciaaDoor.K

/-! K16 -/
namespace Go.Proofs.YteilnbnnhocciaaDoor.K
open Go.RowKit Go.Proofs.YteilnbnnhocciaaDoorW.PrintWords Go.Proofs.YteilnbnnhocciaaDoorW.PrintLast Go.Proofs.YteilnbnnhocciaaDoorW.PrintMore Go.Proofs.YteilnbnnhocciaaDoorM
attribute [local go_sem] max2_int min2_int max_two min_two max_three min_three max_four min_four
set_option linter.unusedVariables false
set_option linter.unusedSimpArgs false
def edit_count.f (s0_0 : ByteArray) (s0_1 : Int) (s0_2 : Int) : Option (Int × ByteArray × Int × Int) := (varint_Reader_Num.f s0_0 s0_1 s0_2).bind fun bt141 => (if bt141.1 > 200 then ((varint_Reader_Fail.f bt141.2.1 bt141.2.2.1 bt141.2.2.2 6).bind fun bt145 => (some (bt141.1, bt145.1, bt145.2.1, bt145.2.2))) else (some (bt141.1, bt141.2.1, bt141.2.2.1, bt141.2.2.2)))
set_option maxHeartbeats 8000000 in
set_option maxRecDepth 100000 in
theorem edit_count.calls (g : Nat) (s0_0 : ByteArray) (s0_1 : Int) (s0_2 : Int) (r1 : Int) (r2 : ByteArray) (r3 : Int) (r4 : Int) (w0 w : World) (hI : IsS171 w0 w g s0_0 s0_1 s0_2) (hB : Below w0.heap.size w0 w) (h : edit_count.f s0_0 s0_1 s0_2 = some (r1, r2, r3, r4)) :
    Calls Tryd.prog 57 #[.pointer (some ⟨g, 0, none⟩)] w fun e w' => e = .returned (.int .u64 r1) ∧ IsS171 w0 w' g r2 r3 r4 ∧ Below w0.heap.size w0 w' ∧ KeepBut w w' g none := by
  have HI0 := Aside0.mk hI
  have HK := Aside0.mk (KeepBut.refl w g none)
  have HL := Aside0.mk hB.size
  clear hI
  have HW0 := Aside0.mk hB.size
  have HB := Aside0.mk hB
  clear hB
  have H : ((varint_Reader_Num.f s0_0 s0_1 s0_2).bind fun bt141 => (if bt141.1 > 200 then ((varint_Reader_Fail.f bt141.2.1 bt141.2.2.1 bt141.2.2.2 6).bind fun bt145 => (some (bt141.1, bt145.1, bt145.2.1, bt145.2.2))) else (some (bt141.1, bt141.2.1, bt141.2.2.1, bt141.2.2.2)))) = some (r1, r2, r3, r4) := h
  clear h
  replace H := Option.bind_eq_some_iff.mp H
  obtain ⟨⟨t141, t142, t143, t144⟩, A20, H⟩ := H
  replace H : (if t141 > 200 then ((varint_Reader_Fail.f t142 t143 t144 6).bind fun bt145 => (some (t141, bt145.1, bt145.2.1, bt145.2.2))) else (some (t141, t142, t143, t144))) = some (r1, r2, r3, r4) := H
  have A2 := Aside0.mk A20
  clear A20
  by_cases c3 : t141 > 200
  · rw [if_pos c3] at H
    have c3b0 : decide (200 < t141) = true := decide_eq_true c3
    clear c3
    replace H := Option.bind_eq_some_iff.mp H
    obtain ⟨⟨t145, t146, t147⟩, A40, H⟩ := H
    replace H : (some (t141, t145, t146, t147)) = some (r1, r2, r3, r4) := H
    have A4 := Aside0.mk A40
    clear A40
    simp only [Option.some.injEq, Prod.mk.injEq] at H
    obtain ⟨rfl, rfl, rfl, rfl⟩ := H
    go_enter Tryd.func57, Tryd.ntmps57
    go_wp2_with (first | ((with_reducible refine gate_callee (f := 56) rfl ?_); refine goesL_ (some 5) rfl rfl Tryd.func56 (by kernel_rfl) rfl #[.pointer (some ⟨g, 0, none⟩)] rfl (by (try simp only [List.map_toArray, List.map_cons, List.map_nil]); first | done | rfl | (simp only [List.length_drop, List.length_take]; rfl)) ?_; (with_reducible refine (varint_Reader_Num.calls g s0_0 s0_1 s0_2 t141 t142 t143 t144 w0 _ ?side1 ?side2 A2.out).mono ?_); (case side1 => repeat (first | (with_reducible first | exact HI0.out | apply IsS171.alloc | apply IsS171.drewN | apply IsS171.drew | apply IsS171.set_0 | apply IsS171.set_1 | apply IsS171.set_2) | exact HI0.out)); (case side2 => repeat (first | (with_reducible first | exact HB.out | apply below_alloc | apply pw_below_drewN | apply below_drew1 | refine below_set ?_ (IsS171.ge HI0.out)) | exact HB.out)); rintro e w5 ⟨rfl, hi, hb, hk⟩; refine ⟨_, rfl, ?_⟩; have n0_ := Aside0.mk (KeepBut.trans (by repeat (first | (with_reducible first | exact HK.out | apply KeepBut.set_ | apply keep_drewN | apply keep_drew | apply keep_alloc) | exact HK.out)) hk (.inl rfl)); have n1_ := Aside0.mk (hb); have n2_ := Aside0.mk (hi); clear HK; clear HB; clear HI0; have HK := n0_; have HB := n1_; have HI0 := n2_; clear n0_ n1_ n2_; (try clear hb); (try clear hb2); (try clear hk); (try clear hi)) | ((with_reducible refine gate_callee (f := 108) rfl ?_); refine goesL_ (some 9) rfl rfl Tryd.func108 (by kernel_rfl) rfl #[.pointer (some ⟨g, 0, none⟩), .int .i64 6] rfl (by (try simp only [List.map_toArray, List.map_cons, List.map_nil]); first | done | rfl | (simp only [List.length_drop, List.length_take]; rfl)) ?_; (with_reducible refine (varint_Reader_Fail.calls g t142 t143 t144 6 t145 t146 t147 w0 _ ?side1 ?side2 A4.out).mono ?_); (case side1 => repeat (first | (with_reducible first | exact HI0.out | apply IsS171.alloc | apply IsS171.drewN | apply IsS171.drew | apply IsS171.set_0 | apply IsS171.set_1 | apply IsS171.set_2) | exact HI0.out)); (case side2 => repeat (first | (with_reducible first | exact HB.out | apply below_alloc | apply pw_below_drewN | apply below_drew1 | refine below_set ?_ (IsS171.ge HI0.out)) | exact HB.out)); rintro e w6 ⟨rfl, hi, hb, hk⟩; refine ⟨_, rfl, ?_⟩; have n0_ := Aside0.mk (KeepBut.trans (by repeat (first | (with_reducible first | exact HK.out | apply KeepBut.set_ | apply keep_drewN | apply keep_drew | apply keep_alloc) | exact HK.out)) hk (.inl rfl)); have n1_ := Aside0.mk (hb); have n2_ := Aside0.mk (hi); clear HK; clear HB; clear HI0; have HK := n0_; have HB := n1_; have HI0 := n2_; clear n0_ n1_ n2_; (try clear hb); (try clear hb2); (try clear hk); (try clear hi)))
    go_ret
    exact ⟨by first | rfl | (simp [errW_none, errW_some] <;> rfl) | (simp [*, errW_none, errW_some] <;> rfl), by repeat (first | (with_reducible first | exact HI0.out | apply IsS171.alloc | apply IsS171.drewN | apply IsS171.drew | apply IsS171.set_0 | apply IsS171.set_1 | apply IsS171.set_2) | exact HI0.out), by repeat (first | (with_reducible first | exact HB.out | apply below_alloc | apply pw_below_drewN | apply below_drew1 | refine below_set ?_ (IsS171.ge HI0.out)) | exact HB.out), by repeat (first | (with_reducible first | exact HK.out | apply KeepBut.set_ | apply keep_drewN | apply keep_drew | apply keep_alloc) | exact HK.out)⟩
  · rw [if_neg c3] at H
    have c3b0 : decide (200 < t141) = false := decide_eq_false c3
    clear c3
    simp only [Option.some.injEq, Prod.mk.injEq] at H
    obtain ⟨rfl, rfl, rfl, rfl⟩ := H
    go_enter Tryd.func57, Tryd.ntmps57
    go_wp2_with (first | ((with_reducible refine gate_callee (f := 56) rfl ?_); refine goesL_ (some 5) rfl rfl Tryd.func56 (by kernel_rfl) rfl #[.pointer (some ⟨g, 0, none⟩)] rfl (by (try simp only [List.map_toArray, List.map_cons, List.map_nil]); first | done | rfl | (simp only [List.length_drop, List.length_take]; rfl)) ?_; (with_reducible refine (varint_Reader_Num.calls g s0_0 s0_1 s0_2 t141 t142 t143 t144 w0 _ ?side1 ?side2 A2.out).mono ?_); (case side1 => repeat (first | (with_reducible first | exact HI0.out | apply IsS171.alloc | apply IsS171.drewN | apply IsS171.drew | apply IsS171.set_0 | apply IsS171.set_1 | apply IsS171.set_2) | exact HI0.out)); (case side2 => repeat (first | (with_reducible first | exact HB.out | apply below_alloc | apply pw_below_drewN | apply below_drew1 | refine below_set ?_ (IsS171.ge HI0.out)) | exact HB.out)); rintro e w7 ⟨rfl, hi, hb, hk⟩; refine ⟨_, rfl, ?_⟩; have n0_ := Aside0.mk (KeepBut.trans (by repeat (first | (with_reducible first | exact HK.out | apply KeepBut.set_ | apply keep_drewN | apply keep_drew | apply keep_alloc) | exact HK.out)) hk (.inl rfl)); have n1_ := Aside0.mk (hb); have n2_ := Aside0.mk (hi); clear HK; clear HB; clear HI0; have HK := n0_; have HB := n1_; have HI0 := n2_; clear n0_ n1_ n2_; (try clear hb); (try clear hb2); (try clear hk); (try clear hi)))
    go_ret
    exact ⟨by first | rfl | (simp [errW_none, errW_some] <;> rfl) | (simp [*, errW_none, errW_some] <;> rfl), by repeat (first | (with_reducible first | exact HI0.out | apply IsS171.alloc | apply IsS171.drewN | apply IsS171.drew | apply IsS171.set_0 | apply IsS171.set_1 | apply IsS171.set_2) | exact HI0.out), by repeat (first | (with_reducible first | exact HB.out | apply below_alloc | apply pw_below_drewN | apply below_drew1 | refine below_set ?_ (IsS171.ge HI0.out)) | exact HB.out), by repeat (first | (with_reducible first | exact HK.out | apply KeepBut.set_ | apply keep_drewN | apply keep_drew | apply keep_alloc) | exact HK.out)⟩
end Go.Proofs.YteilnbnnhocciaaDoor.K

/-! K17 -/
namespace Go.Proofs.YteilnbnnhocciaaDoor.K
open Go.RowKit Go.Proofs.YteilnbnnhocciaaDoorW.PrintWords Go.Proofs.YteilnbnnhocciaaDoorW.PrintLast Go.Proofs.YteilnbnnhocciaaDoorW.PrintMore Go.Proofs.YteilnbnnhocciaaDoorM
attribute [local go_sem] max2_int min2_int max_two min_two max_three min_three max_four min_four
set_option linter.unusedVariables false
set_option linter.unusedSimpArgs false
def varint_Reader_Err.f (s0_0 : ByteArray) (s0_1 : Int) (s0_2 : Int) : Option (Int × ByteArray × Int × Int) := some (s0_2, s0_0, s0_1, s0_2)
set_option maxHeartbeats 8000000 in
set_option maxRecDepth 100000 in
theorem varint_Reader_Err.calls (g : Nat) (s0_0 : ByteArray) (s0_1 : Int) (s0_2 : Int) (r1 : Int) (r2 : ByteArray) (r3 : Int) (r4 : Int) (w0 w : World) (hI : IsS171 w0 w g s0_0 s0_1 s0_2) (hB : Below w0.heap.size w0 w) (h : varint_Reader_Err.f s0_0 s0_1 s0_2 = some (r1, r2, r3, r4)) :
    Calls Tryd.prog 58 #[.pointer (some ⟨g, 0, none⟩)] w fun e w' => e = .returned (.int .i64 r1) ∧ IsS171 w0 w' g r2 r3 r4 ∧ Below w0.heap.size w0 w' ∧ KeepBut w w' g none := by
  have HI0 := Aside0.mk hI
  have HK := Aside0.mk (KeepBut.refl w g none)
  have HL := Aside0.mk hB.size
  clear hI
  have HW0 := Aside0.mk hB.size
  have HB := Aside0.mk hB
  clear hB
  have H : (some (s0_2, s0_0, s0_1, s0_2)) = some (r1, r2, r3, r4) := h
  clear h
  simp only [Option.some.injEq, Prod.mk.injEq] at H
  obtain ⟨rfl, rfl, rfl, rfl⟩ := H
  obtain ⟨HGz2, hgz2⟩ := HI0.out
  have hcz2_0 := cellS171_0 HGz2
  have hcz2_1 := cellS171_1 HGz2
  have hcz2_2 := cellS171_2 HGz2
  have hfz2_0 := blk_frozen HGz2 0
  have hfz2_1 := blk_frozen HGz2 1
  have hfz2_2 := blk_frozen HGz2 2
  clear HGz2 hgz2
  go_enter Tryd.func58, Tryd.ntmps58
  go_wp2
  go_ret
  exact ⟨by first | rfl | (simp [errW_none, errW_some] <;> rfl) | (simp [*, errW_none, errW_some] <;> rfl), by repeat (first | (with_reducible first | exact HI0.out | apply IsS171.alloc | apply IsS171.drewN | apply IsS171.drew | apply IsS171.set_0 | apply IsS171.set_1 | apply IsS171.set_2) | exact HI0.out), by repeat (first | (with_reducible first | exact HB.out | apply below_alloc | apply pw_below_drewN | apply below_drew1 | refine below_set ?_ (IsS171.ge HI0.out)) | exact HB.out), by repeat (first | (with_reducible first | exact HK.out | apply KeepBut.set_ | apply keep_drewN | apply keep_drew | apply keep_alloc) | exact HK.out)⟩
end Go.Proofs.YteilnbnnhocciaaDoor.K

/-! K18 -/
namespace Go.Proofs.YteilnbnnhocciaaDoor.K
open Go.RowKit Go.Proofs.YteilnbnnhocciaaDoorW.PrintWords Go.Proofs.YteilnbnnhocciaaDoorW.PrintLast Go.Proofs.YteilnbnnhocciaaDoorW.PrintMore Go.Proofs.YteilnbnnhocciaaDoorM
attribute [local go_sem] max2_int min2_int max_two min_two max_three min_three max_four min_four
set_option linter.unusedVariables false
set_option linter.unusedSimpArgs false
def edit_levelOf.f (s0_0 : ByteArray) (s0_1 : Int) (s0_2 : Int) : Option (Int × ByteArray × Int × Int) := (varint_Reader_Num.f s0_0 s0_1 s0_2).bind fun bt148 => (if bt148.1 ≥ 4 then ((varint_Reader_Fail.f bt148.2.1 bt148.2.2.1 bt148.2.2.2 21).bind fun bt152 => (some (0, bt152.1, bt152.2.1, bt152.2.2))) else (some (wrap64 (bt148.1), bt148.2.1, bt148.2.2.1, bt148.2.2.2)))
set_option maxHeartbeats 8000000 in
set_option maxRecDepth 100000 in
theorem edit_levelOf.calls (g : Nat) (s0_0 : ByteArray) (s0_1 : Int) (s0_2 : Int) (r1 : Int) (r2 : ByteArray) (r3 : Int) (r4 : Int) (w0 w : World) (hI : IsS171 w0 w g s0_0 s0_1 s0_2) (hB : Below w0.heap.size w0 w) (h : edit_levelOf.f s0_0 s0_1 s0_2 = some (r1, r2, r3, r4)) :
    Calls Tryd.prog 59 #[.pointer (some ⟨g, 0, none⟩)] w fun e w' => e = .returned (.int .i64 r1) ∧ IsS171 w0 w' g r2 r3 r4 ∧ Below w0.heap.size w0 w' ∧ KeepBut w w' g none := by
  have HI0 := Aside0.mk hI
  have HK := Aside0.mk (KeepBut.refl w g none)
  have HL := Aside0.mk hB.size
  clear hI
  have HW0 := Aside0.mk hB.size
  have HB := Aside0.mk hB
  clear hB
  have H : ((varint_Reader_Num.f s0_0 s0_1 s0_2).bind fun bt148 => (if bt148.1 ≥ 4 then ((varint_Reader_Fail.f bt148.2.1 bt148.2.2.1 bt148.2.2.2 21).bind fun bt152 => (some (0, bt152.1, bt152.2.1, bt152.2.2))) else (some (wrap64 (bt148.1), bt148.2.1, bt148.2.2.1, bt148.2.2.2)))) = some (r1, r2, r3, r4) := h
  clear h
  replace H := Option.bind_eq_some_iff.mp H
  obtain ⟨⟨t148, t149, t150, t151⟩, A20, H⟩ := H
  replace H : (if t148 ≥ 4 then ((varint_Reader_Fail.f t149 t150 t151 21).bind fun bt152 => (some (0, bt152.1, bt152.2.1, bt152.2.2))) else (some (wrap64 (t148), t149, t150, t151))) = some (r1, r2, r3, r4) := H
  have A2 := Aside0.mk A20
  clear A20
  by_cases c3 : t148 ≥ 4
  · rw [if_pos c3] at H
    have c3b0 : decide (4 ≤ t148) = true := decide_eq_true c3
    clear c3
    replace H := Option.bind_eq_some_iff.mp H
    obtain ⟨⟨t152, t153, t154⟩, A40, H⟩ := H
    replace H : (some (0, t152, t153, t154)) = some (r1, r2, r3, r4) := H
    have A4 := Aside0.mk A40
    clear A40
    simp only [Option.some.injEq, Prod.mk.injEq] at H
    obtain ⟨rfl, rfl, rfl, rfl⟩ := H
    go_enter Tryd.func59, Tryd.ntmps59
    go_wp2_with (first | ((with_reducible refine gate_callee (f := 56) rfl ?_); refine goesL_ (some 5) rfl rfl Tryd.func56 (by kernel_rfl) rfl #[.pointer (some ⟨g, 0, none⟩)] rfl (by (try simp only [List.map_toArray, List.map_cons, List.map_nil]); first | done | rfl | (simp only [List.length_drop, List.length_take]; rfl)) ?_; (with_reducible refine (varint_Reader_Num.calls g s0_0 s0_1 s0_2 t148 t149 t150 t151 w0 _ ?side1 ?side2 A2.out).mono ?_); (case side1 => repeat (first | (with_reducible first | exact HI0.out | apply IsS171.alloc | apply IsS171.drewN | apply IsS171.drew | apply IsS171.set_0 | apply IsS171.set_1 | apply IsS171.set_2) | exact HI0.out)); (case side2 => repeat (first | (with_reducible first | exact HB.out | apply below_alloc | apply pw_below_drewN | apply below_drew1 | refine below_set ?_ (IsS171.ge HI0.out)) | exact HB.out)); rintro e w5 ⟨rfl, hi, hb, hk⟩; refine ⟨_, rfl, ?_⟩; have n0_ := Aside0.mk (KeepBut.trans (by repeat (first | (with_reducible first | exact HK.out | apply KeepBut.set_ | apply keep_drewN | apply keep_drew | apply keep_alloc) | exact HK.out)) hk (.inl rfl)); have n1_ := Aside0.mk (hb); have n2_ := Aside0.mk (hi); clear HK; clear HB; clear HI0; have HK := n0_; have HB := n1_; have HI0 := n2_; clear n0_ n1_ n2_; (try clear hb); (try clear hb2); (try clear hk); (try clear hi)) | ((with_reducible refine gate_callee (f := 108) rfl ?_); refine goesL_ (some 9) rfl rfl Tryd.func108 (by kernel_rfl) rfl #[.pointer (some ⟨g, 0, none⟩), .int .i64 21] rfl (by (try simp only [List.map_toArray, List.map_cons, List.map_nil]); first | done | rfl | (simp only [List.length_drop, List.length_take]; rfl)) ?_; (with_reducible refine (varint_Reader_Fail.calls g t149 t150 t151 21 t152 t153 t154 w0 _ ?side1 ?side2 A4.out).mono ?_); (case side1 => repeat (first | (with_reducible first | exact HI0.out | apply IsS171.alloc | apply IsS171.drewN | apply IsS171.drew | apply IsS171.set_0 | apply IsS171.set_1 | apply IsS171.set_2) | exact HI0.out)); (case side2 => repeat (first | (with_reducible first | exact HB.out | apply below_alloc | apply pw_below_drewN | apply below_drew1 | refine below_set ?_ (IsS171.ge HI0.out)) | exact HB.out)); rintro e w6 ⟨rfl, hi, hb, hk⟩; refine ⟨_, rfl, ?_⟩; have n0_ := Aside0.mk (KeepBut.trans (by repeat (first | (with_reducible first | exact HK.out | apply KeepBut.set_ | apply keep_drewN | apply keep_drew | apply keep_alloc) | exact HK.out)) hk (.inl rfl)); have n1_ := Aside0.mk (hb); have n2_ := Aside0.mk (hi); clear HK; clear HB; clear HI0; have HK := n0_; have HB := n1_; have HI0 := n2_; clear n0_ n1_ n2_; (try clear hb); (try clear hb2); (try clear hk); (try clear hi)))
    go_ret
    exact ⟨by first | rfl | (simp [errW_none, errW_some] <;> rfl) | (simp [*, errW_none, errW_some] <;> rfl), by repeat (first | (with_reducible first | exact HI0.out | apply IsS171.alloc | apply IsS171.drewN | apply IsS171.drew | apply IsS171.set_0 | apply IsS171.set_1 | apply IsS171.set_2) | exact HI0.out), by repeat (first | (with_reducible first | exact HB.out | apply below_alloc | apply pw_below_drewN | apply below_drew1 | refine below_set ?_ (IsS171.ge HI0.out)) | exact HB.out), by repeat (first | (with_reducible first | exact HK.out | apply KeepBut.set_ | apply keep_drewN | apply keep_drew | apply keep_alloc) | exact HK.out)⟩
  · rw [if_neg c3] at H
    have c3b0 : decide (4 ≤ t148) = false := decide_eq_false c3
    clear c3
    simp only [Option.some.injEq, Prod.mk.injEq] at H
    obtain ⟨rfl, rfl, rfl, rfl⟩ := H
    go_enter Tryd.func59, Tryd.ntmps59
    go_wp2_with (first | ((with_reducible refine gate_callee (f := 56) rfl ?_); refine goesL_ (some 5) rfl rfl Tryd.func56 (by kernel_rfl) rfl #[.pointer (some ⟨g, 0, none⟩)] rfl (by (try simp only [List.map_toArray, List.map_cons, List.map_nil]); first | done | rfl | (simp only [List.length_drop, List.length_take]; rfl)) ?_; (with_reducible refine (varint_Reader_Num.calls g s0_0 s0_1 s0_2 t148 t149 t150 t151 w0 _ ?side1 ?side2 A2.out).mono ?_); (case side1 => repeat (first | (with_reducible first | exact HI0.out | apply IsS171.alloc | apply IsS171.drewN | apply IsS171.drew | apply IsS171.set_0 | apply IsS171.set_1 | apply IsS171.set_2) | exact HI0.out)); (case side2 => repeat (first | (with_reducible first | exact HB.out | apply below_alloc | apply pw_below_drewN | apply below_drew1 | refine below_set ?_ (IsS171.ge HI0.out)) | exact HB.out)); rintro e w7 ⟨rfl, hi, hb, hk⟩; refine ⟨_, rfl, ?_⟩; have n0_ := Aside0.mk (KeepBut.trans (by repeat (first | (with_reducible first | exact HK.out | apply KeepBut.set_ | apply keep_drewN | apply keep_drew | apply keep_alloc) | exact HK.out)) hk (.inl rfl)); have n1_ := Aside0.mk (hb); have n2_ := Aside0.mk (hi); clear HK; clear HB; clear HI0; have HK := n0_; have HB := n1_; have HI0 := n2_; clear n0_ n1_ n2_; (try clear hb); (try clear hb2); (try clear hk); (try clear hi)))
    go_ret
    exact ⟨by first | rfl | (simp [errW_none, errW_some] <;> rfl) | (simp [*, errW_none, errW_some] <;> rfl), by repeat (first | (with_reducible first | exact HI0.out | apply IsS171.alloc | apply IsS171.drewN | apply IsS171.drew | apply IsS171.set_0 | apply IsS171.set_1 | apply IsS171.set_2) | exact HI0.out), by repeat (first | (with_reducible first | exact HB.out | apply below_alloc | apply pw_below_drewN | apply below_drew1 | refine below_set ?_ (IsS171.ge HI0.out)) | exact HB.out), by repeat (first | (with_reducible first | exact HK.out | apply KeepBut.set_ | apply keep_drewN | apply keep_drew | apply keep_alloc) | exact HK.out)⟩
end Go.Proofs.YteilnbnnhocciaaDoor.K

/-! K19 -/
namespace Go.Proofs.YteilnbnnhocciaaDoor.K
open Go.RowKit Go.Proofs.YteilnbnnhocciaaDoorW.PrintWords Go.Proofs.YteilnbnnhocciaaDoorW.PrintLast Go.Proofs.YteilnbnnhocciaaDoorW.PrintMore Go.Proofs.YteilnbnnhocciaaDoorM
attribute [local go_sem] max2_int min2_int max_two min_two max_three min_three max_four min_four
set_option linter.unusedVariables false
set_option linter.unusedSimpArgs false
def varint_Reader_Take.f (s0_0 : ByteArray) (s0_1 : Int) (s0_2 : Int) (a1 : Int) : Option (ByteArray × ByteArray × Int × Int) := (varint_Reader_ok.f s0_0 s0_1 s0_2).bind fun bt155 => (if bt155.1 = true then (if a1 < 0 then (some ((⟨#[]⟩ : ByteArray), bt155.2.1, bt155.2.2.1, 3)) else (if a1 > (wrap64 ((bt155.2.1.size : Int) - bt155.2.2.1)) then (some ((⟨#[]⟩ : ByteArray), bt155.2.1, bt155.2.2.1, 3)) else (if 0 ≤ bt155.2.2.1 then (if bt155.2.2.1 ≤ (wrap64 (bt155.2.2.1 + a1)) then (if (wrap64 (bt155.2.2.1 + a1)) ≤ (bt155.2.1.size : Int) then (some (bt155.2.1.extract (bt155.2.2.1 : Int).toNat ((wrap64 (bt155.2.2.1 + a1)) : Int).toNat, bt155.2.1, wrap64 (bt155.2.2.1 + a1), bt155.2.2.2)) else (none)) else (none)) else (none)))) else (some ((⟨#[]⟩ : ByteArray), bt155.2.1, bt155.2.2.1, bt155.2.2.2)))
set_option maxHeartbeats 8000000 in
set_option maxRecDepth 100000 in
theorem varint_Reader_Take.calls (g : Nat) (s0_0 : ByteArray) (s0_1 : Int) (s0_2 : Int) (a1 : Int) (r1 : ByteArray) (r2 : ByteArray) (r3 : Int) (r4 : Int) (w0 w : World) (hI : IsS171 w0 w g s0_0 s0_1 s0_2) (hB : Below w0.heap.size w0 w) (h : varint_Reader_Take.f s0_0 s0_1 s0_2 a1 = some (r1, r2, r3, r4)) :
    Calls Tryd.prog 109 #[.pointer (some ⟨g, 0, none⟩), .int .i64 a1] w fun e w' => e = .returned (.string r1) ∧ IsS171 w0 w' g r2 r3 r4 ∧ Below w0.heap.size w0 w' ∧ KeepBut w w' g none := by
  have HI0 := Aside0.mk hI
  have HK := Aside0.mk (KeepBut.refl w g none)
  have HL := Aside0.mk hB.size
  clear hI
  have HW0 := Aside0.mk hB.size
  have HB := Aside0.mk hB
  clear hB
  have H : ((varint_Reader_ok.f s0_0 s0_1 s0_2).bind fun bt155 => (if bt155.1 = true then (if a1 < 0 then (some ((⟨#[]⟩ : ByteArray), bt155.2.1, bt155.2.2.1, 3)) else (if a1 > (wrap64 ((bt155.2.1.size : Int) - bt155.2.2.1)) then (some ((⟨#[]⟩ : ByteArray), bt155.2.1, bt155.2.2.1, 3)) else (if 0 ≤ bt155.2.2.1 then (if bt155.2.2.1 ≤ (wrap64 (bt155.2.2.1 + a1)) then (if (wrap64 (bt155.2.2.1 + a1)) ≤ (bt155.2.1.size : Int) then (some (bt155.2.1.extract (bt155.2.2.1 : Int).toNat ((wrap64 (bt155.2.2.1 + a1)) : Int).toNat, bt155.2.1, wrap64 (bt155.2.2.1 + a1), bt155.2.2.2)) else (none)) else (none)) else (none)))) else (some ((⟨#[]⟩ : ByteArray), bt155.2.1, bt155.2.2.1, bt155.2.2.2)))) = some (r1, r2, r3, r4) := h
  clear h
  replace H := Option.bind_eq_some_iff.mp H
  obtain ⟨⟨t155, t156, t157, t158⟩, A30, H⟩ := H
  replace H : (if t155 = true then (if a1 < 0 then (some ((⟨#[]⟩ : ByteArray), t156, t157, 3)) else (if a1 > (wrap64 ((t156.size : Int) - t157)) then (some ((⟨#[]⟩ : ByteArray), t156, t157, 3)) else (if 0 ≤ t157 then (if t157 ≤ (wrap64 (t157 + a1)) then (if (wrap64 (t157 + a1)) ≤ (t156.size : Int) then (some (t156.extract (t157 : Int).toNat ((wrap64 (t157 + a1)) : Int).toNat, t156, wrap64 (t157 + a1), t158)) else (none)) else (none)) else (none)))) else (some ((⟨#[]⟩ : ByteArray), t156, t157, t158))) = some (r1, r2, r3, r4) := H
  have A3 := Aside0.mk A30
  clear A30
  by_cases c4 : t155 = true
  · subst c4
    have H1 : (if a1 < 0 then (some ((⟨#[]⟩ : ByteArray), t156, t157, 3)) else (if a1 > (wrap64 ((t156.size : Int) - t157)) then (some ((⟨#[]⟩ : ByteArray), t156, t157, 3)) else (if 0 ≤ t157 then (if t157 ≤ (wrap64 (t157 + a1)) then (if (wrap64 (t157 + a1)) ≤ (t156.size : Int) then (some (t156.extract (t157 : Int).toNat ((wrap64 (t157 + a1)) : Int).toNat, t156, wrap64 (t157 + a1), t158)) else (none)) else (none)) else (none)))) = some (r1, r2, r3, r4) := by rw [if_pos rfl] at H; exact H
    clear H
    have H := H1
    clear H1
    by_cases c5 : a1 < 0
    · rw [if_pos c5] at H
      have c5b0 : decide (a1 < 0) = true := decide_eq_true c5
      clear c5
      simp only [Option.some.injEq, Prod.mk.injEq] at H
      obtain ⟨rfl, rfl, rfl, rfl⟩ := H
      go_enter Tryd.func109, Tryd.ntmps109
      go_wp2_with (first | (go_at_call 106; (with_reducible refine (varint_Reader_ok.calls g s0_0 s0_1 s0_2 true t156 t157 t158 w0 _ ?side1 ?side2 A3.out).mono ?_); (case side1 => repeat (first | (with_reducible first | exact HI0.out | apply IsS171.alloc | apply IsS171.drewN | apply IsS171.drew | apply IsS171.set_0 | apply IsS171.set_1 | apply IsS171.set_2) | exact HI0.out)); (case side2 => repeat (first | (with_reducible first | exact HB.out | apply below_alloc | apply pw_below_drewN | apply below_drew1 | refine below_set ?_ (IsS171.ge HI0.out)) | exact HB.out)); rintro e w6 ⟨rfl, hi, hb, hk⟩; have n0_ := Aside0.mk (KeepBut.trans (by repeat (first | (with_reducible first | exact HK.out | apply KeepBut.set_ | apply keep_drewN | apply keep_drew | apply keep_alloc) | exact HK.out)) hk (.inl rfl)); have n1_ := Aside0.mk (hb); have n2_ := Aside0.mk (hi); clear HK; clear HB; clear HI0; have HK := n0_; have HB := n1_; have HI0 := n2_; clear n0_ n1_ n2_; (try clear hb); (try clear hb2); (try clear hk); (try clear hi); obtain ⟨HGz7, hgz7⟩ := HI0.out; have hcz7_0 := cellS171_0 HGz7; have hcz7_1 := cellS171_1 HGz7; have hcz7_2 := cellS171_2 HGz7; have hfz7_0 := blk_frozen HGz7 0; have hfz7_1 := blk_frozen HGz7 1; have hfz7_2 := blk_frozen HGz7 2; clear HGz7 hgz7))
      repeat (go_quiet (first | (go_at_call 106; (with_reducible refine (varint_Reader_ok.calls g s0_0 s0_1 s0_2 true t156 t157 t158 w0 _ ?side1 ?side2 A3.out).mono ?_); (case side1 => repeat (first | (with_reducible first | exact HI0.out | apply IsS171.alloc | apply IsS171.drewN | apply IsS171.drew | apply IsS171.set_0 | apply IsS171.set_1 | apply IsS171.set_2) | exact HI0.out)); (case side2 => repeat (first | (with_reducible first | exact HB.out | apply below_alloc | apply pw_below_drewN | apply below_drew1 | refine below_set ?_ (IsS171.ge HI0.out)) | exact HB.out)); rintro e w6 ⟨rfl, hi, hb, hk⟩; have n0_ := Aside0.mk (KeepBut.trans (by repeat (first | (with_reducible first | exact HK.out | apply KeepBut.set_ | apply keep_drewN | apply keep_drew | apply keep_alloc) | exact HK.out)) hk (.inl rfl)); have n1_ := Aside0.mk (hb); have n2_ := Aside0.mk (hi); clear HK; clear HB; clear HI0; have HK := n0_; have HB := n1_; have HI0 := n2_; clear n0_ n1_ n2_; (try clear hb); (try clear hb2); (try clear hk); (try clear hi); obtain ⟨HGz7, hgz7⟩ := HI0.out; have hcz7_0 := cellS171_0 HGz7; have hcz7_1 := cellS171_1 HGz7; have hcz7_2 := cellS171_2 HGz7; have hfz7_0 := blk_frozen HGz7 0; have hfz7_1 := blk_frozen HGz7 1; have hfz7_2 := blk_frozen HGz7 2; clear HGz7 hgz7)); try go_wp2_with (first | (go_at_call 106; (with_reducible refine (varint_Reader_ok.calls g s0_0 s0_1 s0_2 true t156 t157 t158 w0 _ ?side1 ?side2 A3.out).mono ?_); (case side1 => repeat (first | (with_reducible first | exact HI0.out | apply IsS171.alloc | apply IsS171.drewN | apply IsS171.drew | apply IsS171.set_0 | apply IsS171.set_1 | apply IsS171.set_2) | exact HI0.out)); (case side2 => repeat (first | (with_reducible first | exact HB.out | apply below_alloc | apply pw_below_drewN | apply below_drew1 | refine below_set ?_ (IsS171.ge HI0.out)) | exact HB.out)); rintro e w6 ⟨rfl, hi, hb, hk⟩; have n0_ := Aside0.mk (KeepBut.trans (by repeat (first | (with_reducible first | exact HK.out | apply KeepBut.set_ | apply keep_drewN | apply keep_drew | apply keep_alloc) | exact HK.out)) hk (.inl rfl)); have n1_ := Aside0.mk (hb); have n2_ := Aside0.mk (hi); clear HK; clear HB; clear HI0; have HK := n0_; have HB := n1_; have HI0 := n2_; clear n0_ n1_ n2_; (try clear hb); (try clear hb2); (try clear hk); (try clear hi); obtain ⟨HGz7, hgz7⟩ := HI0.out; have hcz7_0 := cellS171_0 HGz7; have hcz7_1 := cellS171_1 HGz7; have hcz7_2 := cellS171_2 HGz7; have hfz7_0 := blk_frozen HGz7 0; have hfz7_1 := blk_frozen HGz7 1; have hfz7_2 := blk_frozen HGz7 2; clear HGz7 hgz7)))
      go_ret
      exact ⟨by first | rfl | (simp [errW_none, errW_some] <;> rfl) | (simp [*, errW_none, errW_some] <;> rfl), by repeat (first | (with_reducible first | exact HI0.out | apply IsS171.alloc | apply IsS171.drewN | apply IsS171.drew | apply IsS171.set_0 | apply IsS171.set_1 | apply IsS171.set_2) | exact HI0.out), by repeat (first | (with_reducible first | exact HB.out | apply below_alloc | apply pw_below_drewN | apply below_drew1 | refine below_set ?_ (IsS171.ge HI0.out)) | exact HB.out), by repeat (first | (with_reducible first | exact HK.out | apply KeepBut.set_ | apply keep_drewN | apply keep_drew | apply keep_alloc) | exact HK.out)⟩
    · rw [if_neg c5] at H
      have c5b0 : decide (a1 < 0) = false := decide_eq_false c5
      clear c5
      by_cases c8 : a1 > (wrap64 ((t156.size : Int) - t157))
      · rw [if_pos c8] at H
        have c8b0 : decide ((wrap64 ((t156.size : Int) - t157)) < a1) = true := decide_eq_true c8
        clear c8
        simp only [Option.some.injEq, Prod.mk.injEq] at H
        obtain ⟨rfl, rfl, rfl, rfl⟩ := H
        go_enter Tryd.func109, Tryd.ntmps109
        go_wp2_with (first | (go_at_call 106; (with_reducible refine (varint_Reader_ok.calls g s0_0 s0_1 s0_2 true t156 t157 t158 w0 _ ?side1 ?side2 A3.out).mono ?_); (case side1 => repeat (first | (with_reducible first | exact HI0.out | apply IsS171.alloc | apply IsS171.drewN | apply IsS171.drew | apply IsS171.set_0 | apply IsS171.set_1 | apply IsS171.set_2) | exact HI0.out)); (case side2 => repeat (first | (with_reducible first | exact HB.out | apply below_alloc | apply pw_below_drewN | apply below_drew1 | refine below_set ?_ (IsS171.ge HI0.out)) | exact HB.out)); rintro e w9 ⟨rfl, hi, hb, hk⟩; have n0_ := Aside0.mk (KeepBut.trans (by repeat (first | (with_reducible first | exact HK.out | apply KeepBut.set_ | apply keep_drewN | apply keep_drew | apply keep_alloc) | exact HK.out)) hk (.inl rfl)); have n1_ := Aside0.mk (hb); have n2_ := Aside0.mk (hi); clear HK; clear HB; clear HI0; have HK := n0_; have HB := n1_; have HI0 := n2_; clear n0_ n1_ n2_; (try clear hb); (try clear hb2); (try clear hk); (try clear hi); obtain ⟨HGz10, hgz10⟩ := HI0.out; have hcz10_0 := cellS171_0 HGz10; have hcz10_1 := cellS171_1 HGz10; have hcz10_2 := cellS171_2 HGz10; have hfz10_0 := blk_frozen HGz10 0; have hfz10_1 := blk_frozen HGz10 1; have hfz10_2 := blk_frozen HGz10 2; clear HGz10 hgz10))
        repeat (go_quiet (first | (go_at_call 106; (with_reducible refine (varint_Reader_ok.calls g s0_0 s0_1 s0_2 true t156 t157 t158 w0 _ ?side1 ?side2 A3.out).mono ?_); (case side1 => repeat (first | (with_reducible first | exact HI0.out | apply IsS171.alloc | apply IsS171.drewN | apply IsS171.drew | apply IsS171.set_0 | apply IsS171.set_1 | apply IsS171.set_2) | exact HI0.out)); (case side2 => repeat (first | (with_reducible first | exact HB.out | apply below_alloc | apply pw_below_drewN | apply below_drew1 | refine below_set ?_ (IsS171.ge HI0.out)) | exact HB.out)); rintro e w9 ⟨rfl, hi, hb, hk⟩; have n0_ := Aside0.mk (KeepBut.trans (by repeat (first | (with_reducible first | exact HK.out | apply KeepBut.set_ | apply keep_drewN | apply keep_drew | apply keep_alloc) | exact HK.out)) hk (.inl rfl)); have n1_ := Aside0.mk (hb); have n2_ := Aside0.mk (hi); clear HK; clear HB; clear HI0; have HK := n0_; have HB := n1_; have HI0 := n2_; clear n0_ n1_ n2_; (try clear hb); (try clear hb2); (try clear hk); (try clear hi); obtain ⟨HGz10, hgz10⟩ := HI0.out; have hcz10_0 := cellS171_0 HGz10; have hcz10_1 := cellS171_1 HGz10; have hcz10_2 := cellS171_2 HGz10; have hfz10_0 := blk_frozen HGz10 0; have hfz10_1 := blk_frozen HGz10 1; have hfz10_2 := blk_frozen HGz10 2; clear HGz10 hgz10)); try go_wp2_with (first | (go_at_call 106; (with_reducible refine (varint_Reader_ok.calls g s0_0 s0_1 s0_2 true t156 t157 t158 w0 _ ?side1 ?side2 A3.out).mono ?_); (case side1 => repeat (first | (with_reducible first | exact HI0.out | apply IsS171.alloc | apply IsS171.drewN | apply IsS171.drew | apply IsS171.set_0 | apply IsS171.set_1 | apply IsS171.set_2) | exact HI0.out)); (case side2 => repeat (first | (with_reducible first | exact HB.out | apply below_alloc | apply pw_below_drewN | apply below_drew1 | refine below_set ?_ (IsS171.ge HI0.out)) | exact HB.out)); rintro e w9 ⟨rfl, hi, hb, hk⟩; have n0_ := Aside0.mk (KeepBut.trans (by repeat (first | (with_reducible first | exact HK.out | apply KeepBut.set_ | apply keep_drewN | apply keep_drew | apply keep_alloc) | exact HK.out)) hk (.inl rfl)); have n1_ := Aside0.mk (hb); have n2_ := Aside0.mk (hi); clear HK; clear HB; clear HI0; have HK := n0_; have HB := n1_; have HI0 := n2_; clear n0_ n1_ n2_; (try clear hb); (try clear hb2); (try clear hk); (try clear hi); obtain ⟨HGz10, hgz10⟩ := HI0.out; have hcz10_0 := cellS171_0 HGz10; have hcz10_1 := cellS171_1 HGz10; have hcz10_2 := cellS171_2 HGz10; have hfz10_0 := blk_frozen HGz10 0; have hfz10_1 := blk_frozen HGz10 1; have hfz10_2 := blk_frozen HGz10 2; clear HGz10 hgz10)))
        go_ret
        exact ⟨by first | rfl | (simp [errW_none, errW_some] <;> rfl) | (simp [*, errW_none, errW_some] <;> rfl), by repeat (first | (with_reducible first | exact HI0.out | apply IsS171.alloc | apply IsS171.drewN | apply IsS171.drew | apply IsS171.set_0 | apply IsS171.set_1 | apply IsS171.set_2) | exact HI0.out), by repeat (first | (with_reducible first | exact HB.out | apply below_alloc | apply pw_below_drewN | apply below_drew1 | refine below_set ?_ (IsS171.ge HI0.out)) | exact HB.out), by repeat (first | (with_reducible first | exact HK.out | apply KeepBut.set_ | apply keep_drewN | apply keep_drew | apply keep_alloc) | exact HK.out)⟩
      · rw [if_neg c8] at H
        have c8b0 : decide ((wrap64 ((t156.size : Int) - t157)) < a1) = false := decide_eq_false c8
        clear c8
        by_cases c11 : 0 ≤ t157
        · rw [if_pos c11] at H
          have c11b0 := eq_true c11
          have c11b1 : decide (0 ≤ t157) = true := decide_eq_true c11
          clear c11
          by_cases c12 : t157 ≤ (wrap64 (t157 + a1))
          · rw [if_pos c12] at H
            have c12b0 := eq_true c12
            have c12b1 : decide (t157 ≤ (wrap64 (t157 + a1))) = true := decide_eq_true c12
            by_cases c13 : (wrap64 (t157 + a1)) ≤ (t156.size : Int)
            · rw [if_pos c13] at H
              have c13b0 := eq_true c13
              have c13b1 : decide ((wrap64 (t157 + a1)) ≤ (t156.size : Int)) = true := decide_eq_true c13
              simp only [Option.some.injEq, Prod.mk.injEq] at H
              obtain ⟨rfl, rfl, rfl, rfl⟩ := H
              go_enter Tryd.func109, Tryd.ntmps109
              go_wp2_with (first | (go_at_call 106; (with_reducible refine (varint_Reader_ok.calls g s0_0 s0_1 s0_2 true t156 t157 t158 w0 _ ?side1 ?side2 A3.out).mono ?_); (case side1 => repeat (first | (with_reducible first | exact HI0.out | apply IsS171.alloc | apply IsS171.drewN | apply IsS171.drew | apply IsS171.set_0 | apply IsS171.set_1 | apply IsS171.set_2) | exact HI0.out)); (case side2 => repeat (first | (with_reducible first | exact HB.out | apply below_alloc | apply pw_below_drewN | apply below_drew1 | refine below_set ?_ (IsS171.ge HI0.out)) | exact HB.out)); rintro e w14 ⟨rfl, hi, hb, hk⟩; have n0_ := Aside0.mk (KeepBut.trans (by repeat (first | (with_reducible first | exact HK.out | apply KeepBut.set_ | apply keep_drewN | apply keep_drew | apply keep_alloc) | exact HK.out)) hk (.inl rfl)); have n1_ := Aside0.mk (hb); have n2_ := Aside0.mk (hi); clear HK; clear HB; clear HI0; have HK := n0_; have HB := n1_; have HI0 := n2_; clear n0_ n1_ n2_; (try clear hb); (try clear hb2); (try clear hk); (try clear hi); obtain ⟨HGz15, hgz15⟩ := HI0.out; have hcz15_0 := cellS171_0 HGz15; have hcz15_1 := cellS171_1 HGz15; have hcz15_2 := cellS171_2 HGz15; have hfz15_0 := blk_frozen HGz15 0; have hfz15_1 := blk_frozen HGz15 1; have hfz15_2 := blk_frozen HGz15 2; clear HGz15 hgz15))
              repeat (go_quiet (first | (go_at_call 106; (with_reducible refine (varint_Reader_ok.calls g s0_0 s0_1 s0_2 true t156 t157 t158 w0 _ ?side1 ?side2 A3.out).mono ?_); (case side1 => repeat (first | (with_reducible first | exact HI0.out | apply IsS171.alloc | apply IsS171.drewN | apply IsS171.drew | apply IsS171.set_0 | apply IsS171.set_1 | apply IsS171.set_2) | exact HI0.out)); (case side2 => repeat (first | (with_reducible first | exact HB.out | apply below_alloc | apply pw_below_drewN | apply below_drew1 | refine below_set ?_ (IsS171.ge HI0.out)) | exact HB.out)); rintro e w14 ⟨rfl, hi, hb, hk⟩; have n0_ := Aside0.mk (KeepBut.trans (by repeat (first | (with_reducible first | exact HK.out | apply KeepBut.set_ | apply keep_drewN | apply keep_drew | apply keep_alloc) | exact HK.out)) hk (.inl rfl)); have n1_ := Aside0.mk (hb); have n2_ := Aside0.mk (hi); clear HK; clear HB; clear HI0; have HK := n0_; have HB := n1_; have HI0 := n2_; clear n0_ n1_ n2_; (try clear hb); (try clear hb2); (try clear hk); (try clear hi); obtain ⟨HGz15, hgz15⟩ := HI0.out; have hcz15_0 := cellS171_0 HGz15; have hcz15_1 := cellS171_1 HGz15; have hcz15_2 := cellS171_2 HGz15; have hfz15_0 := blk_frozen HGz15 0; have hfz15_1 := blk_frozen HGz15 1; have hfz15_2 := blk_frozen HGz15 2; clear HGz15 hgz15)); try go_wp2_with (first | (go_at_call 106; (with_reducible refine (varint_Reader_ok.calls g s0_0 s0_1 s0_2 true t156 t157 t158 w0 _ ?side1 ?side2 A3.out).mono ?_); (case side1 => repeat (first | (with_reducible first | exact HI0.out | apply IsS171.alloc | apply IsS171.drewN | apply IsS171.drew | apply IsS171.set_0 | apply IsS171.set_1 | apply IsS171.set_2) | exact HI0.out)); (case side2 => repeat (first | (with_reducible first | exact HB.out | apply below_alloc | apply pw_below_drewN | apply below_drew1 | refine below_set ?_ (IsS171.ge HI0.out)) | exact HB.out)); rintro e w14 ⟨rfl, hi, hb, hk⟩; have n0_ := Aside0.mk (KeepBut.trans (by repeat (first | (with_reducible first | exact HK.out | apply KeepBut.set_ | apply keep_drewN | apply keep_drew | apply keep_alloc) | exact HK.out)) hk (.inl rfl)); have n1_ := Aside0.mk (hb); have n2_ := Aside0.mk (hi); clear HK; clear HB; clear HI0; have HK := n0_; have HB := n1_; have HI0 := n2_; clear n0_ n1_ n2_; (try clear hb); (try clear hb2); (try clear hk); (try clear hi); obtain ⟨HGz15, hgz15⟩ := HI0.out; have hcz15_0 := cellS171_0 HGz15; have hcz15_1 := cellS171_1 HGz15; have hcz15_2 := cellS171_2 HGz15; have hfz15_0 := blk_frozen HGz15 0; have hfz15_1 := blk_frozen HGz15 1; have hfz15_2 := blk_frozen HGz15 2; clear HGz15 hgz15)))
              go_ret
              exact ⟨by first | rfl | (simp [errW_none, errW_some] <;> rfl) | (simp [*, errW_none, errW_some] <;> rfl), by repeat (first | (with_reducible first | exact HI0.out | apply IsS171.alloc | apply IsS171.drewN | apply IsS171.drew | apply IsS171.set_0 | apply IsS171.set_1 | apply IsS171.set_2) | exact HI0.out), by repeat (first | (with_reducible first | exact HB.out | apply below_alloc | apply pw_below_drewN | apply below_drew1 | refine below_set ?_ (IsS171.ge HI0.out)) | exact HB.out), by repeat (first | (with_reducible first | exact HK.out | apply KeepBut.set_ | apply keep_drewN | apply keep_drew | apply keep_alloc) | exact HK.out)⟩
            · rw [if_neg c13] at H
              exact absurd H (by simp)
          · rw [if_neg c12] at H
            exact absurd H (by simp)
        · rw [if_neg c11] at H
          exact absurd H (by simp)
  · replace c4 := Bool.eq_false_iff.mpr c4
    subst c4
    have H1 : (some ((⟨#[]⟩ : ByteArray), t156, t157, t158)) = some (r1, r2, r3, r4) := by rw [if_neg (show ¬ (false = true) by decide)] at H; exact H
    clear H
    have H := H1
    clear H1
    simp only [Option.some.injEq, Prod.mk.injEq] at H
    obtain ⟨rfl, rfl, rfl, rfl⟩ := H
    go_enter Tryd.func109, Tryd.ntmps109
    go_wp2_with (first | (go_at_call 106; (with_reducible refine (varint_Reader_ok.calls g s0_0 s0_1 s0_2 false t156 t157 t158 w0 _ ?side1 ?side2 A3.out).mono ?_); (case side1 => repeat (first | (with_reducible first | exact HI0.out | apply IsS171.alloc | apply IsS171.drewN | apply IsS171.drew | apply IsS171.set_0 | apply IsS171.set_1 | apply IsS171.set_2) | exact HI0.out)); (case side2 => repeat (first | (with_reducible first | exact HB.out | apply below_alloc | apply pw_below_drewN | apply below_drew1 | refine below_set ?_ (IsS171.ge HI0.out)) | exact HB.out)); rintro e w16 ⟨rfl, hi, hb, hk⟩; have n0_ := Aside0.mk (KeepBut.trans (by repeat (first | (with_reducible first | exact HK.out | apply KeepBut.set_ | apply keep_drewN | apply keep_drew | apply keep_alloc) | exact HK.out)) hk (.inl rfl)); have n1_ := Aside0.mk (hb); have n2_ := Aside0.mk (hi); clear HK; clear HB; clear HI0; have HK := n0_; have HB := n1_; have HI0 := n2_; clear n0_ n1_ n2_; (try clear hb); (try clear hb2); (try clear hk); (try clear hi)))
    repeat (go_quiet (first | (go_at_call 106; (with_reducible refine (varint_Reader_ok.calls g s0_0 s0_1 s0_2 false t156 t157 t158 w0 _ ?side1 ?side2 A3.out).mono ?_); (case side1 => repeat (first | (with_reducible first | exact HI0.out | apply IsS171.alloc | apply IsS171.drewN | apply IsS171.drew | apply IsS171.set_0 | apply IsS171.set_1 | apply IsS171.set_2) | exact HI0.out)); (case side2 => repeat (first | (with_reducible first | exact HB.out | apply below_alloc | apply pw_below_drewN | apply below_drew1 | refine below_set ?_ (IsS171.ge HI0.out)) | exact HB.out)); rintro e w16 ⟨rfl, hi, hb, hk⟩; have n0_ := Aside0.mk (KeepBut.trans (by repeat (first | (with_reducible first | exact HK.out | apply KeepBut.set_ | apply keep_drewN | apply keep_drew | apply keep_alloc) | exact HK.out)) hk (.inl rfl)); have n1_ := Aside0.mk (hb); have n2_ := Aside0.mk (hi); clear HK; clear HB; clear HI0; have HK := n0_; have HB := n1_; have HI0 := n2_; clear n0_ n1_ n2_; (try clear hb); (try clear hb2); (try clear hk); (try clear hi))); try go_wp2_with (first | (go_at_call 106; (with_reducible refine (varint_Reader_ok.calls g s0_0 s0_1 s0_2 false t156 t157 t158 w0 _ ?side1 ?side2 A3.out).mono ?_); (case side1 => repeat (first | (with_reducible first | exact HI0.out | apply IsS171.alloc | apply IsS171.drewN | apply IsS171.drew | apply IsS171.set_0 | apply IsS171.set_1 | apply IsS171.set_2) | exact HI0.out)); (case side2 => repeat (first | (with_reducible first | exact HB.out | apply below_alloc | apply pw_below_drewN | apply below_drew1 | refine below_set ?_ (IsS171.ge HI0.out)) | exact HB.out)); rintro e w16 ⟨rfl, hi, hb, hk⟩; have n0_ := Aside0.mk (KeepBut.trans (by repeat (first | (with_reducible first | exact HK.out | apply KeepBut.set_ | apply keep_drewN | apply keep_drew | apply keep_alloc) | exact HK.out)) hk (.inl rfl)); have n1_ := Aside0.mk (hb); have n2_ := Aside0.mk (hi); clear HK; clear HB; clear HI0; have HK := n0_; have HB := n1_; have HI0 := n2_; clear n0_ n1_ n2_; (try clear hb); (try clear hb2); (try clear hk); (try clear hi))))
    go_ret
    exact ⟨by first | rfl | (simp [errW_none, errW_some] <;> rfl) | (simp [*, errW_none, errW_some] <;> rfl), by repeat (first | (with_reducible first | exact HI0.out | apply IsS171.alloc | apply IsS171.drewN | apply IsS171.drew | apply IsS171.set_0 | apply IsS171.set_1 | apply IsS171.set_2) | exact HI0.out), by repeat (first | (with_reducible first | exact HB.out | apply below_alloc | apply pw_below_drewN | apply below_drew1 | refine below_set ?_ (IsS171.ge HI0.out)) | exact HB.out), by repeat (first | (with_reducible first | exact HK.out | apply KeepBut.set_ | apply keep_drewN | apply keep_drew | apply keep_alloc) | exact HK.out)⟩
end Go.Proofs.YteilnbnnhocciaaDoor.K

/-! K20 -/
namespace Go.Proofs.YteilnbnnhocciaaDoor.K
open Go.RowKit Go.Proofs.YteilnbnnhocciaaDoorW.PrintWords Go.Proofs.YteilnbnnhocciaaDoorW.PrintLast Go.Proofs.YteilnbnnhocciaaDoorW.PrintMore Go.Proofs.YteilnbnnhocciaaDoorM
attribute [local go_sem] max2_int min2_int max_two min_two max_three min_three max_four min_four
set_option linter.unusedVariables false
set_option linter.unusedSimpArgs false
def varint_Reader_Text.f (s0_0 : ByteArray) (s0_1 : Int) (s0_2 : Int) (a1 : Int) : Option (ByteArray × ByteArray × Int × Int) := (varint_Reader_Num.f s0_0 s0_1 s0_2).bind fun bt159 => (if bt159.1 > (IntKind.u64.wrap (mx a1 0)) then ((varint_Reader_Fail.f bt159.2.1 bt159.2.2.1 bt159.2.2.2 5).bind fun bt163 => (some ((⟨#[]⟩ : ByteArray), bt163.1, bt163.2.1, bt163.2.2))) else ((varint_Reader_Take.f bt159.2.1 bt159.2.2.1 bt159.2.2.2 (wrap64 (bt159.1))).bind fun bt166 => (some (bt166.1, bt166.2.1, bt166.2.2.1, bt166.2.2.2))))
set_option maxHeartbeats 8000000 in
set_option maxRecDepth 100000 in
theorem varint_Reader_Text.calls (g : Nat) (s0_0 : ByteArray) (s0_1 : Int) (s0_2 : Int) (a1 : Int) (r1 : ByteArray) (r2 : ByteArray) (r3 : Int) (r4 : Int) (w0 w : World) (hI : IsS171 w0 w g s0_0 s0_1 s0_2) (hB : Below w0.heap.size w0 w) (h : varint_Reader_Text.f s0_0 s0_1 s0_2 a1 = some (r1, r2, r3, r4)) :
    Calls Tryd.prog 60 #[.pointer (some ⟨g, 0, none⟩), .int .i64 a1] w fun e w' => e = .returned (.string r1) ∧ IsS171 w0 w' g r2 r3 r4 ∧ Below w0.heap.size w0 w' ∧ KeepBut w w' g none := by
  have HI0 := Aside0.mk hI
  have HK := Aside0.mk (KeepBut.refl w g none)
  have HL := Aside0.mk hB.size
  clear hI
  have HW0 := Aside0.mk hB.size
  have HB := Aside0.mk hB
  clear hB
  have H : ((varint_Reader_Num.f s0_0 s0_1 s0_2).bind fun bt159 => (if bt159.1 > (IntKind.u64.wrap (mx a1 0)) then ((varint_Reader_Fail.f bt159.2.1 bt159.2.2.1 bt159.2.2.2 5).bind fun bt163 => (some ((⟨#[]⟩ : ByteArray), bt163.1, bt163.2.1, bt163.2.2))) else ((varint_Reader_Take.f bt159.2.1 bt159.2.2.1 bt159.2.2.2 (wrap64 (bt159.1))).bind fun bt166 => (some (bt166.1, bt166.2.1, bt166.2.2.1, bt166.2.2.2))))) = some (r1, r2, r3, r4) := h
  clear h
  replace H := Option.bind_eq_some_iff.mp H
  obtain ⟨⟨t159, t160, t161, t162⟩, A30, H⟩ := H
  replace H : (if t159 > (IntKind.u64.wrap (mx a1 0)) then ((varint_Reader_Fail.f t160 t161 t162 5).bind fun bt163 => (some ((⟨#[]⟩ : ByteArray), bt163.1, bt163.2.1, bt163.2.2))) else ((varint_Reader_Take.f t160 t161 t162 (wrap64 (t159))).bind fun bt166 => (some (bt166.1, bt166.2.1, bt166.2.2.1, bt166.2.2.2)))) = some (r1, r2, r3, r4) := H
  have A3 := Aside0.mk A30
  clear A30
  obtain ⟨ji4, hji4⟩ : ∃ j_ : Int, (mx a1 0) = j_ := ⟨_, rfl⟩
  replace H : (if t159 > (IntKind.u64.wrap (ji4)) then ((varint_Reader_Fail.f t160 t161 t162 5).bind fun bt163 => (some ((⟨#[]⟩ : ByteArray), bt163.1, bt163.2.1, bt163.2.2))) else ((varint_Reader_Take.f t160 t161 t162 (wrap64 (t159))).bind fun bt166 => (some (bt166.1, bt166.2.1, bt166.2.2.1, bt166.2.2.2)))) = some (r1, r2, r3, r4) := by first | (rw [hji4] at H; exact H) | (simp only [hji4] at H ⊢; exact H)
  (try rw [hji4] at A3)
  (try (have hji4l : 0 ≤ ji4 := by (rw [← hji4]; unfold mx; (repeat' split) <;> omega)))
  (try (have hji4m : 0 ≤ ji4 := by omega))
  have hji4_ : (if a1 < 0 then 0 else a1) = ji4 := hji4
  by_cases c5 : t159 > (IntKind.u64.wrap (ji4))
  · rw [if_pos c5] at H
    have c5b0 : decide ((IntKind.u64.wrap (ji4)) < t159) = true := decide_eq_true c5
    clear c5
    replace H := Option.bind_eq_some_iff.mp H
    obtain ⟨⟨t163, t164, t165⟩, A60, H⟩ := H
    replace H : (some ((⟨#[]⟩ : ByteArray), t163, t164, t165)) = some (r1, r2, r3, r4) := H
    have A6 := Aside0.mk A60
    clear A60
    simp only [Option.some.injEq, Prod.mk.injEq] at H
    obtain ⟨rfl, rfl, rfl, rfl⟩ := H
    go_enter Tryd.func60, Tryd.ntmps60
    go_wp2_with (first | ((with_reducible refine gate_callee (f := 56) rfl ?_); refine goesL_ (some 7) rfl rfl Tryd.func56 (by kernel_rfl) rfl #[.pointer (some ⟨g, 0, none⟩)] rfl (by (try simp only [List.map_toArray, List.map_cons, List.map_nil]); first | done | rfl | (simp only [List.length_drop, List.length_take]; rfl)) ?_; (with_reducible refine (varint_Reader_Num.calls g s0_0 s0_1 s0_2 t159 t160 t161 t162 w0 _ ?side1 ?side2 A3.out).mono ?_); (case side1 => repeat (first | (with_reducible first | exact HI0.out | apply IsS171.alloc | apply IsS171.drewN | apply IsS171.drew | apply IsS171.set_0 | apply IsS171.set_1 | apply IsS171.set_2) | exact HI0.out)); (case side2 => repeat (first | (with_reducible first | exact HB.out | apply below_alloc | apply pw_below_drewN | apply below_drew1 | refine below_set ?_ (IsS171.ge HI0.out)) | exact HB.out)); rintro e w7 ⟨rfl, hi, hb, hk⟩; refine ⟨_, rfl, ?_⟩; have n0_ := Aside0.mk (KeepBut.trans (by repeat (first | (with_reducible first | exact HK.out | apply KeepBut.set_ | apply keep_drewN | apply keep_drew | apply keep_alloc) | exact HK.out)) hk (.inl rfl)); have n1_ := Aside0.mk (hb); have n2_ := Aside0.mk (hi); clear HK; clear HB; clear HI0; have HK := n0_; have HB := n1_; have HI0 := n2_; clear n0_ n1_ n2_; (try clear hb); (try clear hb2); (try clear hk); (try clear hi)) | ((with_reducible refine gate_callee (f := 108) rfl ?_); refine goesL_ (some 14) rfl rfl Tryd.func108 (by kernel_rfl) rfl #[.pointer (some ⟨g, 0, none⟩), .int .i64 5] rfl (by (try simp only [List.map_toArray, List.map_cons, List.map_nil]); first | done | rfl | (simp only [List.length_drop, List.length_take]; rfl)) ?_; (with_reducible refine (varint_Reader_Fail.calls g t160 t161 t162 5 t163 t164 t165 w0 _ ?side1 ?side2 A6.out).mono ?_); (case side1 => repeat (first | (with_reducible first | exact HI0.out | apply IsS171.alloc | apply IsS171.drewN | apply IsS171.drew | apply IsS171.set_0 | apply IsS171.set_1 | apply IsS171.set_2) | exact HI0.out)); (case side2 => repeat (first | (with_reducible first | exact HB.out | apply below_alloc | apply pw_below_drewN | apply below_drew1 | refine below_set ?_ (IsS171.ge HI0.out)) | exact HB.out)); rintro e w8 ⟨rfl, hi, hb, hk⟩; refine ⟨_, rfl, ?_⟩; have n0_ := Aside0.mk (KeepBut.trans (by repeat (first | (with_reducible first | exact HK.out | apply KeepBut.set_ | apply keep_drewN | apply keep_drew | apply keep_alloc) | exact HK.out)) hk (.inl rfl)); have n1_ := Aside0.mk (hb); have n2_ := Aside0.mk (hi); clear HK; clear HB; clear HI0; have HK := n0_; have HB := n1_; have HI0 := n2_; clear n0_ n1_ n2_; (try clear hb); (try clear hb2); (try clear hk); (try clear hi)))
    go_ret
    exact ⟨by first | rfl | (simp [errW_none, errW_some] <;> rfl) | (simp only [← hji4]; first | rfl | (simp [errW_none, errW_some] <;> rfl)) | (simp [*, errW_none, errW_some] <;> rfl), by repeat (first | (with_reducible first | exact HI0.out | apply IsS171.alloc | apply IsS171.drewN | apply IsS171.drew | apply IsS171.set_0 | apply IsS171.set_1 | apply IsS171.set_2) | exact HI0.out), by repeat (first | (with_reducible first | exact HB.out | apply below_alloc | apply pw_below_drewN | apply below_drew1 | refine below_set ?_ (IsS171.ge HI0.out)) | exact HB.out), by repeat (first | (with_reducible first | exact HK.out | apply KeepBut.set_ | apply keep_drewN | apply keep_drew | apply keep_alloc) | exact HK.out)⟩
  · rw [if_neg c5] at H
    have c5b0 : decide ((IntKind.u64.wrap (ji4)) < t159) = false := decide_eq_false c5
    clear c5
    replace H := Option.bind_eq_some_iff.mp H
    obtain ⟨⟨t166, t167, t168, t169⟩, A90, H⟩ := H
    replace H : (some (t166, t167, t168, t169)) = some (r1, r2, r3, r4) := H
    have A9 := Aside0.mk A90
    clear A90
    simp only [Option.some.injEq, Prod.mk.injEq] at H
    obtain ⟨rfl, rfl, rfl, rfl⟩ := H
    go_enter Tryd.func60, Tryd.ntmps60
    go_wp2_with (first | ((with_reducible refine gate_callee (f := 56) rfl ?_); refine goesL_ (some 7) rfl rfl Tryd.func56 (by kernel_rfl) rfl #[.pointer (some ⟨g, 0, none⟩)] rfl (by (try simp only [List.map_toArray, List.map_cons, List.map_nil]); first | done | rfl | (simp only [List.length_drop, List.length_take]; rfl)) ?_; (with_reducible refine (varint_Reader_Num.calls g s0_0 s0_1 s0_2 t159 t160 t161 t162 w0 _ ?side1 ?side2 A3.out).mono ?_); (case side1 => repeat (first | (with_reducible first | exact HI0.out | apply IsS171.alloc | apply IsS171.drewN | apply IsS171.drew | apply IsS171.set_0 | apply IsS171.set_1 | apply IsS171.set_2) | exact HI0.out)); (case side2 => repeat (first | (with_reducible first | exact HB.out | apply below_alloc | apply pw_below_drewN | apply below_drew1 | refine below_set ?_ (IsS171.ge HI0.out)) | exact HB.out)); rintro e w10 ⟨rfl, hi, hb, hk⟩; refine ⟨_, rfl, ?_⟩; have n0_ := Aside0.mk (KeepBut.trans (by repeat (first | (with_reducible first | exact HK.out | apply KeepBut.set_ | apply keep_drewN | apply keep_drew | apply keep_alloc) | exact HK.out)) hk (.inl rfl)); have n1_ := Aside0.mk (hb); have n2_ := Aside0.mk (hi); clear HK; clear HB; clear HI0; have HK := n0_; have HB := n1_; have HI0 := n2_; clear n0_ n1_ n2_; (try clear hb); (try clear hb2); (try clear hk); (try clear hi)) | ((with_reducible refine gate_callee (f := 109) rfl ?_); refine goesL_ (some 18) rfl rfl Tryd.func109 (by kernel_rfl) rfl #[.pointer (some ⟨g, 0, none⟩), .int .i64 (wrap64 (t159))] rfl (by (try simp only [List.map_toArray, List.map_cons, List.map_nil]); first | done | rfl | (simp only [List.length_drop, List.length_take]; rfl)) ?_; (with_reducible refine (varint_Reader_Take.calls g t160 t161 t162 (wrap64 (t159)) t166 t167 t168 t169 w0 _ ?side1 ?side2 A9.out).mono ?_); (case side1 => repeat (first | (with_reducible first | exact HI0.out | apply IsS171.alloc | apply IsS171.drewN | apply IsS171.drew | apply IsS171.set_0 | apply IsS171.set_1 | apply IsS171.set_2) | exact HI0.out)); (case side2 => repeat (first | (with_reducible first | exact HB.out | apply below_alloc | apply pw_below_drewN | apply below_drew1 | refine below_set ?_ (IsS171.ge HI0.out)) | exact HB.out)); rintro e w11 ⟨rfl, hi, hb, hk⟩; refine ⟨_, rfl, ?_⟩; have n0_ := Aside0.mk (KeepBut.trans (by repeat (first | (with_reducible first | exact HK.out | apply KeepBut.set_ | apply keep_drewN | apply keep_drew | apply keep_alloc) | exact HK.out)) hk (.inl rfl)); have n1_ := Aside0.mk (hb); have n2_ := Aside0.mk (hi); clear HK; clear HB; clear HI0; have HK := n0_; have HB := n1_; have HI0 := n2_; clear n0_ n1_ n2_; (try clear hb); (try clear hb2); (try clear hk); (try clear hi)))
    go_ret
    exact ⟨by first | rfl | (simp [errW_none, errW_some] <;> rfl) | (simp only [← hji4]; first | rfl | (simp [errW_none, errW_some] <;> rfl)) | (simp [*, errW_none, errW_some] <;> rfl), by repeat (first | (with_reducible first | exact HI0.out | apply IsS171.alloc | apply IsS171.drewN | apply IsS171.drew | apply IsS171.set_0 | apply IsS171.set_1 | apply IsS171.set_2) | exact HI0.out), by repeat (first | (with_reducible first | exact HB.out | apply below_alloc | apply pw_below_drewN | apply below_drew1 | refine below_set ?_ (IsS171.ge HI0.out)) | exact HB.out), by repeat (first | (with_reducible first | exact HK.out | apply KeepBut.set_ | apply keep_drewN | apply keep_drew | apply keep_alloc) | exact HK.out)⟩
end Go.Proofs.YteilnbnnhocciaaDoor.K

/-! K21 -/
namespace Go.Proofs.YteilnbnnhocciaaDoor.K
open Go.RowKit Go.Proofs.YteilnbnnhocciaaDoorW.PrintWords Go.Proofs.YteilnbnnhocciaaDoorW.PrintLast Go.Proofs.YteilnbnnhocciaaDoorW.PrintMore Go.Proofs.YteilnbnnhocciaaDoorM
attribute [local go_sem] max2_int min2_int max_two min_two max_three min_three max_four min_four
set_option linter.unusedVariables false
set_option linter.unusedSimpArgs false
def varint_Reader_Left.f (s0_0 : ByteArray) (s0_1 : Int) (s0_2 : Int) : Option (Int × ByteArray × Int × Int) := some (wrap64 ((s0_0.size : Int) - s0_1), s0_0, s0_1, s0_2)
set_option maxHeartbeats 8000000 in
set_option maxRecDepth 100000 in
theorem varint_Reader_Left.calls (g : Nat) (s0_0 : ByteArray) (s0_1 : Int) (s0_2 : Int) (r1 : Int) (r2 : ByteArray) (r3 : Int) (r4 : Int) (w0 w : World) (hI : IsS171 w0 w g s0_0 s0_1 s0_2) (hB : Below w0.heap.size w0 w) (h : varint_Reader_Left.f s0_0 s0_1 s0_2 = some (r1, r2, r3, r4)) :
    Calls Tryd.prog 110 #[.pointer (some ⟨g, 0, none⟩)] w fun e w' => e = .returned (.int .i64 r1) ∧ IsS171 w0 w' g r2 r3 r4 ∧ Below w0.heap.size w0 w' ∧ KeepBut w w' g none := by
  have HI0 := Aside0.mk hI
  have HK := Aside0.mk (KeepBut.refl w g none)
  have HL := Aside0.mk hB.size
  clear hI
  have HW0 := Aside0.mk hB.size
  have HB := Aside0.mk hB
  clear hB
  have H : (some (wrap64 ((s0_0.size : Int) - s0_1), s0_0, s0_1, s0_2)) = some (r1, r2, r3, r4) := h
  clear h
  simp only [Option.some.injEq, Prod.mk.injEq] at H
  obtain ⟨rfl, rfl, rfl, rfl⟩ := H
  obtain ⟨HGz2, hgz2⟩ := HI0.out
  have hcz2_0 := cellS171_0 HGz2
  have hcz2_1 := cellS171_1 HGz2
  have hcz2_2 := cellS171_2 HGz2
  have hfz2_0 := blk_frozen HGz2 0
  have hfz2_1 := blk_frozen HGz2 1
  have hfz2_2 := blk_frozen HGz2 2
  clear HGz2 hgz2
  go_enter Tryd.func110, Tryd.ntmps110
  go_wp2
  repeat (go_quiet (fail); try go_wp2)
  go_ret
  exact ⟨by first | rfl | (simp [errW_none, errW_some] <;> rfl) | (simp [*, errW_none, errW_some] <;> rfl), by repeat (first | (with_reducible first | exact HI0.out | apply IsS171.alloc | apply IsS171.drewN | apply IsS171.drew | apply IsS171.set_0 | apply IsS171.set_1 | apply IsS171.set_2) | exact HI0.out), by repeat (first | (with_reducible first | exact HB.out | apply below_alloc | apply pw_below_drewN | apply below_drew1 | refine below_set ?_ (IsS171.ge HI0.out)) | exact HB.out), by repeat (first | (with_reducible first | exact HK.out | apply KeepBut.set_ | apply keep_drewN | apply keep_drew | apply keep_alloc) | exact HK.out)⟩
end Go.Proofs.YteilnbnnhocciaaDoor.K

/-! K22 -/
namespace Go.Proofs.YteilnbnnhocciaaDoor.K
open Go.RowKit Go.Proofs.YteilnbnnhocciaaDoorW.PrintWords Go.Proofs.YteilnbnnhocciaaDoorW.PrintLast Go.Proofs.YteilnbnnhocciaaDoorW.PrintMore Go.Proofs.YteilnbnnhocciaaDoorM
attribute [local go_sem] max2_int min2_int max_two min_two max_three min_three max_four min_four
set_option linter.unusedVariables false
set_option linter.unusedSimpArgs false
def varint_Reader_End.f (s0_0 : ByteArray) (s0_1 : Int) (s0_2 : Int) : Option (Int × ByteArray × Int × Int) := (varint_Reader_Err.f s0_0 s0_1 s0_2).bind fun bt170 => (if bt170.1 = 0 then ((varint_Reader_Left.f bt170.2.1 bt170.2.2.1 bt170.2.2.2).bind fun bt174 => (if bt174.1 > 0 then (some (4, bt174.2.1, bt174.2.2.1, bt174.2.2.2)) else (some (0, bt174.2.1, bt174.2.2.1, bt174.2.2.2)))) else (some (bt170.1, bt170.2.1, bt170.2.2.1, bt170.2.2.2)))
set_option maxHeartbeats 8000000 in
set_option maxRecDepth 100000 in
theorem varint_Reader_End.calls (g : Nat) (s0_0 : ByteArray) (s0_1 : Int) (s0_2 : Int) (r1 : Int) (r2 : ByteArray) (r3 : Int) (r4 : Int) (w0 w : World) (hI : IsS171 w0 w g s0_0 s0_1 s0_2) (hB : Below w0.heap.size w0 w) (h : varint_Reader_End.f s0_0 s0_1 s0_2 = some (r1, r2, r3, r4)) :
    Calls Tryd.prog 61 #[.pointer (some ⟨g, 0, none⟩)] w fun e w' => e = .returned (.int .i64 r1) ∧ IsS171 w0 w' g r2 r3 r4 ∧ Below w0.heap.size w0 w' ∧ KeepBut w w' g none := by
  have HI0 := Aside0.mk hI
  have HK := Aside0.mk (KeepBut.refl w g none)
  have HL := Aside0.mk hB.size
  clear hI
  have HW0 := Aside0.mk hB.size
  have HB := Aside0.mk hB
  clear hB
  have H : ((varint_Reader_Err.f s0_0 s0_1 s0_2).bind fun bt170 => (if bt170.1 = 0 then ((varint_Reader_Left.f bt170.2.1 bt170.2.2.1 bt170.2.2.2).bind fun bt174 => (if bt174.1 > 0 then (some (4, bt174.2.1, bt174.2.2.1, bt174.2.2.2)) else (some (0, bt174.2.1, bt174.2.2.1, bt174.2.2.2)))) else (some (bt170.1, bt170.2.1, bt170.2.2.1, bt170.2.2.2)))) = some (r1, r2, r3, r4) := h
  clear h
  replace H := Option.bind_eq_some_iff.mp H
  obtain ⟨⟨t170, t171, t172, t173⟩, A20, H⟩ := H
  replace H : (if t170 = 0 then ((varint_Reader_Left.f t171 t172 t173).bind fun bt174 => (if bt174.1 > 0 then (some (4, bt174.2.1, bt174.2.2.1, bt174.2.2.2)) else (some (0, bt174.2.1, bt174.2.2.1, bt174.2.2.2)))) else (some (t170, t171, t172, t173))) = some (r1, r2, r3, r4) := H
  have A2 := Aside0.mk A20
  clear A20
  by_cases c3 : t170 = 0
  · rw [if_pos c3] at H
    have c3b0 : (t170 == 0) = true := beq_iff_eq.mpr c3
    have c3b1 : (t170 != 0) = false := bne_eq_false_iff_eq.mpr c3
    clear c3
    replace H := Option.bind_eq_some_iff.mp H
    obtain ⟨⟨t174, t175, t176, t177⟩, A40, H⟩ := H
    replace H : (if t174 > 0 then (some (4, t175, t176, t177)) else (some (0, t175, t176, t177))) = some (r1, r2, r3, r4) := H
    have A4 := Aside0.mk A40
    clear A40
    by_cases c5 : t174 > 0
    · rw [if_pos c5] at H
      have c5b0 : decide (0 < t174) = true := decide_eq_true c5
      clear c5
      simp only [Option.some.injEq, Prod.mk.injEq] at H
      obtain ⟨rfl, rfl, rfl, rfl⟩ := H
      go_enter Tryd.func61, Tryd.ntmps61
      go_wp2_with (first | ((with_reducible refine gate_callee (f := 58) rfl ?_); refine goesL_ (some 5) rfl rfl Tryd.func58 (by kernel_rfl) rfl #[.pointer (some ⟨g, 0, none⟩)] rfl (by (try simp only [List.map_toArray, List.map_cons, List.map_nil]); first | done | rfl | (simp only [List.length_drop, List.length_take]; rfl)) ?_; (with_reducible refine (varint_Reader_Err.calls g s0_0 s0_1 s0_2 t170 t171 t172 t173 w0 _ ?side1 ?side2 A2.out).mono ?_); (case side1 => repeat (first | (with_reducible first | exact HI0.out | apply IsS171.alloc | apply IsS171.drewN | apply IsS171.drew | apply IsS171.set_0 | apply IsS171.set_1 | apply IsS171.set_2) | exact HI0.out)); (case side2 => repeat (first | (with_reducible first | exact HB.out | apply below_alloc | apply pw_below_drewN | apply below_drew1 | refine below_set ?_ (IsS171.ge HI0.out)) | exact HB.out)); rintro e w6 ⟨rfl, hi, hb, hk⟩; refine ⟨_, rfl, ?_⟩; have n0_ := Aside0.mk (KeepBut.trans (by repeat (first | (with_reducible first | exact HK.out | apply KeepBut.set_ | apply keep_drewN | apply keep_drew | apply keep_alloc) | exact HK.out)) hk (.inl rfl)); have n1_ := Aside0.mk (hb); have n2_ := Aside0.mk (hi); clear HK; clear HB; clear HI0; have HK := n0_; have HB := n1_; have HI0 := n2_; clear n0_ n1_ n2_; (try clear hb); (try clear hb2); (try clear hk); (try clear hi)) | ((with_reducible refine gate_callee (f := 110) rfl ?_); refine goesL_ (some 10) rfl rfl Tryd.func110 (by kernel_rfl) rfl #[.pointer (some ⟨g, 0, none⟩)] rfl (by (try simp only [List.map_toArray, List.map_cons, List.map_nil]); first | done | rfl | (simp only [List.length_drop, List.length_take]; rfl)) ?_; (with_reducible refine (varint_Reader_Left.calls g t171 t172 t173 t174 t175 t176 t177 w0 _ ?side1 ?side2 A4.out).mono ?_); (case side1 => repeat (first | (with_reducible first | exact HI0.out | apply IsS171.alloc | apply IsS171.drewN | apply IsS171.drew | apply IsS171.set_0 | apply IsS171.set_1 | apply IsS171.set_2) | exact HI0.out)); (case side2 => repeat (first | (with_reducible first | exact HB.out | apply below_alloc | apply pw_below_drewN | apply below_drew1 | refine below_set ?_ (IsS171.ge HI0.out)) | exact HB.out)); rintro e w7 ⟨rfl, hi, hb, hk⟩; refine ⟨_, rfl, ?_⟩; have n0_ := Aside0.mk (KeepBut.trans (by repeat (first | (with_reducible first | exact HK.out | apply KeepBut.set_ | apply keep_drewN | apply keep_drew | apply keep_alloc) | exact HK.out)) hk (.inl rfl)); have n1_ := Aside0.mk (hb); have n2_ := Aside0.mk (hi); clear HK; clear HB; clear HI0; have HK := n0_; have HB := n1_; have HI0 := n2_; clear n0_ n1_ n2_; (try clear hb); (try clear hb2); (try clear hk); (try clear hi)))
      go_ret
      exact ⟨by first | rfl | (simp [errW_none, errW_some] <;> rfl) | (simp [*, errW_none, errW_some] <;> rfl), by repeat (first | (with_reducible first | exact HI0.out | apply IsS171.alloc | apply IsS171.drewN | apply IsS171.drew | apply IsS171.set_0 | apply IsS171.set_1 | apply IsS171.set_2) | exact HI0.out), by repeat (first | (with_reducible first | exact HB.out | apply below_alloc | apply pw_below_drewN | apply below_drew1 | refine below_set ?_ (IsS171.ge HI0.out)) | exact HB.out), by repeat (first | (with_reducible first | exact HK.out | apply KeepBut.set_ | apply keep_drewN | apply keep_drew | apply keep_alloc) | exact HK.out)⟩
    · rw [if_neg c5] at H
      have c5b0 : decide (0 < t174) = false := decide_eq_false c5
      clear c5
      simp only [Option.some.injEq, Prod.mk.injEq] at H
      obtain ⟨rfl, rfl, rfl, rfl⟩ := H
      go_enter Tryd.func61, Tryd.ntmps61
      go_wp2_with (first | ((with_reducible refine gate_callee (f := 58) rfl ?_); refine goesL_ (some 5) rfl rfl Tryd.func58 (by kernel_rfl) rfl #[.pointer (some ⟨g, 0, none⟩)] rfl (by (try simp only [List.map_toArray, List.map_cons, List.map_nil]); first | done | rfl | (simp only [List.length_drop, List.length_take]; rfl)) ?_; (with_reducible refine (varint_Reader_Err.calls g s0_0 s0_1 s0_2 t170 t171 t172 t173 w0 _ ?side1 ?side2 A2.out).mono ?_); (case side1 => repeat (first | (with_reducible first | exact HI0.out | apply IsS171.alloc | apply IsS171.drewN | apply IsS171.drew | apply IsS171.set_0 | apply IsS171.set_1 | apply IsS171.set_2) | exact HI0.out)); (case side2 => repeat (first | (with_reducible first | exact HB.out | apply below_alloc | apply pw_below_drewN | apply below_drew1 | refine below_set ?_ (IsS171.ge HI0.out)) | exact HB.out)); rintro e w8 ⟨rfl, hi, hb, hk⟩; refine ⟨_, rfl, ?_⟩; have n0_ := Aside0.mk (KeepBut.trans (by repeat (first | (with_reducible first | exact HK.out | apply KeepBut.set_ | apply keep_drewN | apply keep_drew | apply keep_alloc) | exact HK.out)) hk (.inl rfl)); have n1_ := Aside0.mk (hb); have n2_ := Aside0.mk (hi); clear HK; clear HB; clear HI0; have HK := n0_; have HB := n1_; have HI0 := n2_; clear n0_ n1_ n2_; (try clear hb); (try clear hb2); (try clear hk); (try clear hi)) | ((with_reducible refine gate_callee (f := 110) rfl ?_); refine goesL_ (some 10) rfl rfl Tryd.func110 (by kernel_rfl) rfl #[.pointer (some ⟨g, 0, none⟩)] rfl (by (try simp only [List.map_toArray, List.map_cons, List.map_nil]); first | done | rfl | (simp only [List.length_drop, List.length_take]; rfl)) ?_; (with_reducible refine (varint_Reader_Left.calls g t171 t172 t173 t174 t175 t176 t177 w0 _ ?side1 ?side2 A4.out).mono ?_); (case side1 => repeat (first | (with_reducible first | exact HI0.out | apply IsS171.alloc | apply IsS171.drewN | apply IsS171.drew | apply IsS171.set_0 | apply IsS171.set_1 | apply IsS171.set_2) | exact HI0.out)); (case side2 => repeat (first | (with_reducible first | exact HB.out | apply below_alloc | apply pw_below_drewN | apply below_drew1 | refine below_set ?_ (IsS171.ge HI0.out)) | exact HB.out)); rintro e w9 ⟨rfl, hi, hb, hk⟩; refine ⟨_, rfl, ?_⟩; have n0_ := Aside0.mk (KeepBut.trans (by repeat (first | (with_reducible first | exact HK.out | apply KeepBut.set_ | apply keep_drewN | apply keep_drew | apply keep_alloc) | exact HK.out)) hk (.inl rfl)); have n1_ := Aside0.mk (hb); have n2_ := Aside0.mk (hi); clear HK; clear HB; clear HI0; have HK := n0_; have HB := n1_; have HI0 := n2_; clear n0_ n1_ n2_; (try clear hb); (try clear hb2); (try clear hk); (try clear hi)))
      go_ret
      exact ⟨by first | rfl | (simp [errW_none, errW_some] <;> rfl) | (simp [*, errW_none, errW_some] <;> rfl), by repeat (first | (with_reducible first | exact HI0.out | apply IsS171.alloc | apply IsS171.drewN | apply IsS171.drew | apply IsS171.set_0 | apply IsS171.set_1 | apply IsS171.set_2) | exact HI0.out), by repeat (first | (with_reducible first | exact HB.out | apply below_alloc | apply pw_below_drewN | apply below_drew1 | refine below_set ?_ (IsS171.ge HI0.out)) | exact HB.out), by repeat (first | (with_reducible first | exact HK.out | apply KeepBut.set_ | apply keep_drewN | apply keep_drew | apply keep_alloc) | exact HK.out)⟩
  · rw [if_neg c3] at H
    have c3b0 : (t170 == 0) = false := beq_eq_false_iff_ne.mpr c3
    have c3b1 : (t170 != 0) = true := bne_iff_ne.mpr c3
    simp only [Option.some.injEq, Prod.mk.injEq] at H
    obtain ⟨rfl, rfl, rfl, rfl⟩ := H
    go_enter Tryd.func61, Tryd.ntmps61
    go_wp2_with (first | ((with_reducible refine gate_callee (f := 58) rfl ?_); refine goesL_ (some 5) rfl rfl Tryd.func58 (by kernel_rfl) rfl #[.pointer (some ⟨g, 0, none⟩)] rfl (by (try simp only [List.map_toArray, List.map_cons, List.map_nil]); first | done | rfl | (simp only [List.length_drop, List.length_take]; rfl)) ?_; (with_reducible refine (varint_Reader_Err.calls g s0_0 s0_1 s0_2 t170 t171 t172 t173 w0 _ ?side1 ?side2 A2.out).mono ?_); (case side1 => repeat (first | (with_reducible first | exact HI0.out | apply IsS171.alloc | apply IsS171.drewN | apply IsS171.drew | apply IsS171.set_0 | apply IsS171.set_1 | apply IsS171.set_2) | exact HI0.out)); (case side2 => repeat (first | (with_reducible first | exact HB.out | apply below_alloc | apply pw_below_drewN | apply below_drew1 | refine below_set ?_ (IsS171.ge HI0.out)) | exact HB.out)); rintro e w10 ⟨rfl, hi, hb, hk⟩; refine ⟨_, rfl, ?_⟩; have n0_ := Aside0.mk (KeepBut.trans (by repeat (first | (with_reducible first | exact HK.out | apply KeepBut.set_ | apply keep_drewN | apply keep_drew | apply keep_alloc) | exact HK.out)) hk (.inl rfl)); have n1_ := Aside0.mk (hb); have n2_ := Aside0.mk (hi); clear HK; clear HB; clear HI0; have HK := n0_; have HB := n1_; have HI0 := n2_; clear n0_ n1_ n2_; (try clear hb); (try clear hb2); (try clear hk); (try clear hi)))
    go_ret
    exact ⟨by first | rfl | (simp [errW_none, errW_some] <;> rfl) | (simp [*, errW_none, errW_some] <;> rfl), by repeat (first | (with_reducible first | exact HI0.out | apply IsS171.alloc | apply IsS171.drewN | apply IsS171.drew | apply IsS171.set_0 | apply IsS171.set_1 | apply IsS171.set_2) | exact HI0.out), by repeat (first | (with_reducible first | exact HB.out | apply below_alloc | apply pw_below_drewN | apply below_drew1 | refine below_set ?_ (IsS171.ge HI0.out)) | exact HB.out), by repeat (first | (with_reducible first | exact HK.out | apply KeepBut.set_ | apply keep_drewN | apply keep_drew | apply keep_alloc) | exact HK.out)⟩
end Go.Proofs.YteilnbnnhocciaaDoor.K

/-! K23 -/
namespace Go.Proofs.YteilnbnnhocciaaDoor.K
open Go.RowKit Go.Proofs.YteilnbnnhocciaaDoorW.PrintWords Go.Proofs.YteilnbnnhocciaaDoorW.PrintLast Go.Proofs.YteilnbnnhocciaaDoorW.PrintMore Go.Proofs.YteilnbnnhocciaaDoorM
attribute [local go_sem] max2_int min2_int max_two min_two max_three min_three max_four min_four
set_option linter.unusedVariables false
set_option linter.unusedSimpArgs false
def edit_cells107 (a : S107) : List Value := [.int .i64 a.f0, .int .u64 a.f1.f0, .int .u64 a.f1.f1, .int .u64 a.f1.f2, .string a.f1.f3, .string a.f1.f4]
def edit_cells111 (a : S111) : List Value := [.int .i64 a.f0, .int .u64 a.f1]
def edit_Parse.come (s : ByteArray) (p e : Int) : Option (S107 × ByteArray × Int × Int) :=
  (edit_levelOf.f s p e).bind fun t0 => (varint_Reader_Num.f t0.2.1 t0.2.2.1 t0.2.2.2).bind fun t1 => (varint_Reader_Num.f t1.2.1 t1.2.2.1 t1.2.2.2).bind fun t2 => (varint_Reader_Num.f t2.2.1 t2.2.2.1 t2.2.2.2).bind fun t3 =>
    (varint_Reader_Text.f t3.2.1 t3.2.2.1 t3.2.2.2 200).bind fun t4 => (varint_Reader_Text.f t4.2.1 t4.2.2.1 t4.2.2.2 200).bind fun t5 => some (⟨t0.1, ⟨t1.1, t2.1, t3.1, t4.1, t5.1⟩⟩, t5.2.1, t5.2.2.1, t5.2.2.2)
def edit_Parse.gone (s : ByteArray) (p e : Int) : Option (S111 × ByteArray × Int × Int) :=
  (edit_levelOf.f s p e).bind fun t0 => (varint_Reader_Num.f t0.2.1 t0.2.2.1 t0.2.2.2).bind fun t1 => some (⟨t0.1, t1.1⟩, t1.2.1, t1.2.2.1, t1.2.2.2)
def edit_Parse.comes : Nat → ByteArray → Int → Int → List S107 → Option (List S107 × ByteArray × Int × Int)
  | 0, s, p, e, acc => some (acc, s, p, e)
  | m + 1, s, p, e, acc => if e = 0 then (edit_Parse.come s p e).bind fun t => if acc.length < 2199023255552 then edit_Parse.comes m t.2.1 t.2.2.1 t.2.2.2 (acc ++ [t.1]) else none else some (acc, s, p, e)
def edit_Parse.gones : Nat → ByteArray → Int → Int → List S111 → Option (List S111 × ByteArray × Int × Int)
  | 0, s, p, e, acc => some (acc, s, p, e)
  | m + 1, s, p, e, acc => if e = 0 then (edit_Parse.gone s p e).bind fun t => if acc.length < 8796093022208 then edit_Parse.gones m t.2.1 t.2.2.1 t.2.2.2 (acc ++ [t.1]) else none else some (acc, s, p, e)
def edit_Parse.fin (lg nx sq : Int) (c : List S107) (g : List S111) (err : Int) : Int × Int × Int × List S107 × List S111 × Int :=
  if err = 0 then (if edit_Edit_Check.val c g = 0 then (lg, nx, sq, c, g, 0) else (0, 0, 0, [], [], edit_Edit_Check.val c g)) else (0, 0, 0, [], [], err)
def edit_Parse.f (a0 : ByteArray) : Option (Int × Int × Int × (List (S107)) × (List (S111)) × Int) :=
  (varint_Reader_Num.f a0 0 0).bind fun t1 => (varint_Reader_Num.f t1.2.1 t1.2.2.1 t1.2.2.2).bind fun t2 => (varint_Reader_Num.f t2.2.1 t2.2.2.1 t2.2.2.2).bind fun t3 =>
    (edit_count.f t3.2.1 t3.2.2.1 t3.2.2.2).bind fun n => if 0 ≤ n.1 ∧ n.1 ≤ 18446744073709551615 then (edit_Parse.comes n.1.toNat n.2.1 n.2.2.1 n.2.2.2 []).bind fun c =>
      (edit_count.f c.2.1 c.2.2.1 c.2.2.2).bind fun n2 => if 0 ≤ n2.1 ∧ n2.1 ≤ 18446744073709551615 then (edit_Parse.gones n2.1.toNat n2.2.1 n2.2.2.1 n2.2.2.2 []).bind fun g =>
        (varint_Reader_End.f g.2.1 g.2.2.1 g.2.2.2).bind fun z => some (edit_Parse.fin t1.1 t2.1 t3.1 c.1 g.1 z.1) else none else none
theorem own_type {w : World} {base e size n : Nat} {v : Value} {xs : List Value} (h : w.ownsRow base e size v n xs) {k : Nat} (hk : v.ownBlock = some k) : ∃ cs, w.heap[k]? = some (.cells cs e (0, 0)) := by
  rcases h.2 with ⟨rfl, _⟩ | ⟨g, cap, cur, rfl, _, hg, _⟩
  · simp [Value.ownBlock] at hk
  · simp [Value.ownBlock] at hk
    subst hk
    exact ⟨cur, hg⟩
theorem heap_lt {w : World} {b : Nat} {o : Obj} (h : w.heap[b]? = some o) : b < w.heap.size := (Array.getElem?_eq_some_iff.1 h).1
theorem blk_ne {w : World} {a b : Nat} {cs cs' : Array Value} {t t' : TypeId} {fr fr' : Nat × Nat} (h : w.heap[a]? = some (.cells cs t fr)) (h' : w.heap[b]? = some (.cells cs' t' fr')) (hne : t ≠ t') : a ≠ b := by
  rintro rfl
  rw [h] at h'
  injection h' with h'
  injection h' with _ ht _
  exact hne ht
theorem own_kept_keep {w W : World} {g base e size n t : Nat} {v : Value} {xs : List Value} {cs : Array Value} (h : w.ownsRow base e size v n xs) (hk : KeepBut w W g none) (hg : w.heap[g]? = some (.cells cs t (0, 0))) (hne : e ≠ t) : W.ownsRow base e size v n xs := by
  refine own_move h fun k hk' => ?_
  obtain ⟨cs', hc⟩ := own_type h hk'
  exact hk.2 k (heap_lt hc) (blk_ne hc hg hne) (by simp)
theorem blk_kept_keep {w W : World} {g b t t' : Nat} {cs cs' : Array Value} (h : w.heap[b]? = some (.cells cs t (0, 0))) (hk : KeepBut w W g none) (hg : w.heap[g]? = some (.cells cs' t' (0, 0))) (hne : t ≠ t') : W.heap[b]? = some (.cells cs t (0, 0)) :=
  (hk.2 b (heap_lt h) (blk_ne h hg hne) (by simp)).trans h
def edit_zero26 : Array Value := #[.int .u64 0, .int .u64 0, .int .u64 0, .slice none 0 0, .slice none 0 0]
structure edit_Parse.St (w : World) (g b2 b5 : Nat) (s : ByteArray) (p e : Int) (C5 : Array Value) (v3 : Value) (l3 : List S107) (v4 : Value) (l4 : List S111) (W : World) : Prop where
  rd : IsS171 w W g s p e
  h2 : W.heap[b2]? = some (.cells edit_zero26 26 (0, 0))
  h5 : W.heap[b5]? = some (.cells C5 26 (0, 0))
  o3 : W.ownsRow w.heap.size 107 6 v3 l3.length (l3.flatMap edit_cells107)
  o4 : W.ownsRow w.heap.size 111 2 v4 l4.length (l4.flatMap edit_cells111)
  bel : Below w.heap.size w W
  ge2 : w.heap.size ≤ b2
  ge5 : w.heap.size ≤ b5
  ne25 : b2 ≠ b5
section
variable {w W W' : World} {g b2 b5 : Nat} {s s' : ByteArray} {p e p' e' : Int} {C5 : Array Value} {v3 v4 : Value} {l3 : List S107} {l4 : List S111}
theorem edit_Parse.St.call (h : edit_Parse.St w g b2 b5 s p e C5 v3 l3 v4 l4 W) (hi : IsS171 w W' g s' p' e') (hb : Below w.heap.size w W') (hk : KeepBut W W' g none) : edit_Parse.St w g b2 b5 s' p' e' C5 v3 l3 v4 l4 W' :=
  ⟨hi, blk_kept_keep h.h2 hk h.rd.1 (by decide), blk_kept_keep h.h5 hk h.rd.1 (by decide), own_kept_keep h.o3 hk h.rd.1 (by decide), own_kept_keep h.o4 hk h.rd.1 (by decide), hb, h.ge2, h.ge5, h.ne25⟩
theorem edit_Parse.St.alloc (h : edit_Parse.St w g b2 b5 s p e C5 v3 l3 v4 l4 W) (o : Obj) : edit_Parse.St w g b2 b5 s p e C5 v3 l3 v4 l4 (W.alloc o) :=
  ⟨h.rd.alloc o, blk_alloc h.h2 o, blk_alloc h.h5 o, h.o3.alloc o, h.o4.alloc o, below_alloc h.bel o, h.ge2, h.ge5, h.ne25⟩
theorem edit_Parse.St.drew (h : edit_Parse.St w g b2 b5 s p e C5 v3 l3 v4 l4 W) : edit_Parse.St w g b2 b5 s p e C5 v3 l3 v4 l4 W.drew :=
  ⟨h.rd.drew, h.h2, h.h5, h.o3.drew, h.o4.drew, below_drew1 h.bel, h.ge2, h.ge5, h.ne25⟩
theorem edit_Parse.St.far (h : edit_Parse.St w g b2 b5 s p e C5 v3 l3 v4 l4 W) {b i : Nat} (u : Value) (hb : w.heap.size ≤ b) (hg : g ≠ b) (h2 : b2 ≠ b) (h5 : b5 ≠ b) (h3 : v3.ownBlock ≠ some b) (h4 : v4.ownBlock ≠ some b) : edit_Parse.St w g b2 b5 s p e C5 v3 l3 v4 l4 (W.setCell ⟨b, i, none⟩ u) :=
  ⟨h.rd.far hg u, (Below.heap_setCell W _ u b2 h2).trans h.h2, (Below.heap_setCell W _ u b5 h5).trans h.h5, own_move h.o3 (fun k hk => Below.heap_setCell W _ u k (fun e => h3 (by rw [hk]; exact congrArg some e))), own_move h.o4 (fun k hk => Below.heap_setCell W _ u k (fun e => h4 (by rw [hk]; exact congrArg some e))), below_set h.bel hb, h.ge2, h.ge5, h.ne25⟩
theorem edit_Parse.St.set5 (h : edit_Parse.St w g b2 b5 s p e C5 v3 l3 v4 l4 W) (i : Nat) (u : Value) : edit_Parse.St w g b2 b5 s p e (C5.setIfInBounds i u) v3 l3 v4 l4 (W.setCell ⟨b5, i, none⟩ u) := by
  have hg : g ≠ b5 := blk_ne h.rd.1 h.h5 (by decide)
  refine ⟨h.rd.far hg u, (Below.heap_setCell W _ u b2 h.ne25).trans h.h2, ?_, own_move h.o3 (fun k hk => Below.heap_setCell W _ u k ?_), own_move h.o4 (fun k hk => Below.heap_setCell W _ u k ?_), below_set h.bel h.ge5, h.ge2, h.ge5, h.ne25⟩
  · simp [World.setCell, Array.getElem?_modify, h.h5]
  · obtain ⟨cs, hc⟩ := own_type h.o3 hk
    exact blk_ne hc h.h5 (by decide)
  · obtain ⟨cs, hc⟩ := own_type h.o4 hk
    exact blk_ne hc h.h5 (by decide)
theorem edit_Parse.St.push3 (h : edit_Parse.St w g b2 b5 s p e C5 v3 l3 v4 l4 W) {a : S107} {v' : Value} (ho : W'.ownsRow w.heap.size 107 6 v' (l3.length + 1) (l3.flatMap edit_cells107 ++ edit_cells107 a)) (hg : W.grownBy W' v3.ownBlock) : edit_Parse.St w g b2 b5 s p e C5 v' (l3 ++ [a]) v4 l4 W' := by
  have hn : ∀ {b t : Nat} {cs : Array Value}, W.heap[b]? = some (.cells cs t (0, 0)) → t ≠ 107 → some b ≠ v3.ownBlock := by
    intro b t cs hb ht e
    obtain ⟨cs', hc⟩ := own_type h.o3 e.symm
    exact blk_ne hb hc ht rfl
  have hb : ∀ {b t : Nat} {cs : Array Value}, W.heap[b]? = some (.cells cs t (0, 0)) → t ≠ 107 → W'.heap[b]? = some (.cells cs t (0, 0)) := fun hb ht => (hg.block _ (heap_lt hb) (hn hb ht)).trans hb
  refine ⟨⟨hb h.rd.1 (by decide), h.rd.2⟩, hb h.h2 (by decide), hb h.h5 (by decide), by simpa using ho, own_move h.o4 (fun k hk => ?_), h.bel.grown hg h.bel.size (fun k hk => (h.o3.lt k hk).1), h.ge2, h.ge5, h.ne25⟩
  obtain ⟨cs, hc⟩ := own_type h.o4 hk
  exact hg.block _ (heap_lt hc) (hn hc (by decide))
theorem edit_Parse.St.push4 (h : edit_Parse.St w g b2 b5 s p e C5 v3 l3 v4 l4 W) {a : S111} {v' : Value} (ho : W'.ownsRow w.heap.size 111 2 v' (l4.length + 1) (l4.flatMap edit_cells111 ++ edit_cells111 a)) (hg : W.grownBy W' v4.ownBlock) : edit_Parse.St w g b2 b5 s p e C5 v3 l3 v' (l4 ++ [a]) W' := by
  have hn : ∀ {b t : Nat} {cs : Array Value}, W.heap[b]? = some (.cells cs t (0, 0)) → t ≠ 111 → some b ≠ v4.ownBlock := by
    intro b t cs hb ht e
    obtain ⟨cs', hc⟩ := own_type h.o4 e.symm
    exact blk_ne hb hc ht rfl
  have hb : ∀ {b t : Nat} {cs : Array Value}, W.heap[b]? = some (.cells cs t (0, 0)) → t ≠ 111 → W'.heap[b]? = some (.cells cs t (0, 0)) := fun hb ht => (hg.block _ (heap_lt hb) (hn hb ht)).trans hb
  refine ⟨⟨hb h.rd.1 (by decide), h.rd.2⟩, hb h.h2 (by decide), hb h.h5 (by decide), own_move h.o3 (fun k hk => ?_), by simpa using ho, h.bel.grown hg h.bel.size (fun k hk => (h.o4.lt k hk).1), h.ge2, h.ge5, h.ne25⟩
  obtain ⟨cs, hc⟩ := own_type h.o3 hk
  exact hg.block _ (heap_lt hc) (hn hc (by decide))
end
theorem cells_new (w : World) (cs : List Value) (e : TypeId) : ∀ j u, cs[j]? = some u → (w.alloc (.cells cs.toArray e)).cell? ((⟨w.heap.size, 0, none⟩ : Addr).add j) = some u := by
  intro j u hj
  have : (⟨w.heap.size, 0, none⟩ : Addr).add j = ⟨w.heap.size, j, none⟩ := by unfold Addr.add; split <;> simp_all
  rw [this, World.cell?_alloc_at _ _ _ _ rfl]
  simpa using hj
theorem R_of_own {α : Type} {d : Kd α} {e base : Nat} {w : World} {v : Value} {l : List α} (f : α → List Value) (hf : ∀ x, (f x).length = d.sz) (hM : ∀ ok x, d.M w base ok x (f x)) (h : w.ownsRow base e d.sz v l.length (l.flatMap f)) : Kd.R d e w base (fun _ => True) v l := by
  refine ⟨fun _ _ => trivial, _, h, ?_⟩
  clear h
  have : ∀ (ok : Nat → Prop), Reps (d.M w base ok) d.sz l (l.flatMap f) := by
    intro ok
    generalize hm : l.length = m
    induction m generalizing l with
    | zero => obtain rfl := List.eq_nil_of_length_eq_zero hm; exact Reps.none _ _
    | succ m ih =>
      obtain ⟨l', x, rfl⟩ : ∃ l' x, l = l' ++ [x] := by
        refine ⟨l.dropLast, l.getLast (by intro h; simp [h] at hm), ?_⟩
        exact (List.dropLast_concat_getLast _).symm
      have hl : l'.length = m := by simpa using hm
      simpa using Reps.snoc (ih hl) (hM ok x) (hf x)
  exact this _
theorem edit_Parse.comes_stop {m : Nat} {s : ByteArray} {p e : Int} {l : List S107} {C : List S107 × ByteArray × Int × Int} (h : edit_Parse.comes m s p e l = some C) (hz : m = 0 ∨ e ≠ 0) : (l, s, p, e) = C := by
  cases m with
  | zero => exact Option.some.inj h
  | succ m =>
    rcases hz with hz | hz
    · cases hz
    · rw [edit_Parse.comes, if_neg hz] at h; exact Option.some.inj h
theorem edit_Parse.gones_stop {m : Nat} {s : ByteArray} {p e : Int} {l : List S111} {C : List S111 × ByteArray × Int × Int} (h : edit_Parse.gones m s p e l = some C) (hz : m = 0 ∨ e ≠ 0) : (l, s, p, e) = C := by
  cases m with
  | zero => exact Option.some.inj h
  | succ m =>
    rcases hz with hz | hz
    · cases hz
    · rw [edit_Parse.gones, if_neg hz] at h; exact Option.some.inj h
structure edit_Parse.Come (s : ByteArray) (p : Int) (a : S107) (s1 s2 s3 s4 s5 s6 : ByteArray) (p1 p2 p3 p4 p5 p6 e1 e2 e3 e4 e5 e6 : Int) : Prop where
  c1 : edit_levelOf.f s p 0 = some (a.f0, s1, p1, e1)
  c2 : varint_Reader_Num.f s1 p1 e1 = some (a.f1.f0, s2, p2, e2)
  c3 : varint_Reader_Num.f s2 p2 e2 = some (a.f1.f1, s3, p3, e3)
  c4 : varint_Reader_Num.f s3 p3 e3 = some (a.f1.f2, s4, p4, e4)
  c5 : varint_Reader_Text.f s4 p4 e4 200 = some (a.f1.f3, s5, p5, e5)
  c6 : varint_Reader_Text.f s5 p5 e5 200 = some (a.f1.f4, s6, p6, e6)
theorem edit_Parse.comes_go {m : Nat} {s : ByteArray} {p : Int} {l : List S107} {C : List S107 × ByteArray × Int × Int} (h : edit_Parse.comes (m + 1) s p 0 l = some C) :
    l.length < 2199023255552 ∧ ∃ a s1 s2 s3 s4 s5 s6 p1 p2 p3 p4 p5 p6 e1 e2 e3 e4 e5 e6, edit_Parse.Come s p a s1 s2 s3 s4 s5 s6 p1 p2 p3 p4 p5 p6 e1 e2 e3 e4 e5 e6 ∧ edit_Parse.comes m s6 p6 e6 (l ++ [a]) = some C := by
  rw [edit_Parse.comes, if_pos rfl] at h
  obtain ⟨⟨a, s6, p6, e6⟩, hc, h⟩ := Option.bind_eq_some_iff.mp h
  dsimp only at h
  by_cases hl : l.length < 2199023255552
  · rw [if_pos hl] at h
    refine ⟨hl, ?_⟩
    obtain ⟨⟨a0, s1, p1, e1⟩, h1, hc⟩ := Option.bind_eq_some_iff.mp hc
    obtain ⟨⟨a1, s2, p2, e2⟩, h2, hc⟩ := Option.bind_eq_some_iff.mp hc
    obtain ⟨⟨a2, s3, p3, e3⟩, h3, hc⟩ := Option.bind_eq_some_iff.mp hc
    obtain ⟨⟨a3, s4, p4, e4⟩, h4, hc⟩ := Option.bind_eq_some_iff.mp hc
    obtain ⟨⟨a4, s5, p5, e5⟩, h5, hc⟩ := Option.bind_eq_some_iff.mp hc
    obtain ⟨⟨a5, s7, p7, e7⟩, h6, hc⟩ := Option.bind_eq_some_iff.mp hc
    dsimp only at h1 h2 h3 h4 h5 h6 hc
    simp only [Option.some.injEq, Prod.mk.injEq] at hc
    obtain ⟨rfl, rfl, rfl, rfl⟩ := hc
    exact ⟨_, _, _, _, _, _, _, _, _, _, _, _, _, _, _, _, _, _, _, ⟨h1, h2, h3, h4, h5, h6⟩, h⟩
  · rw [if_neg hl] at h; cases h
theorem edit_Parse.gones_go {m : Nat} {s : ByteArray} {p : Int} {l : List S111} {C : List S111 × ByteArray × Int × Int} (h : edit_Parse.gones (m + 1) s p 0 l = some C) :
    l.length < 8796093022208 ∧ ∃ a s1 s2 p1 p2 e1 e2, (edit_levelOf.f s p 0 = some (a.f0, s1, p1, e1) ∧ varint_Reader_Num.f s1 p1 e1 = some (a.f1, s2, p2, e2)) ∧ edit_Parse.gones m s2 p2 e2 (l ++ [a]) = some C := by
  rw [edit_Parse.gones, if_pos rfl] at h
  obtain ⟨⟨a, s6, p6, e6⟩, hc, h⟩ := Option.bind_eq_some_iff.mp h
  dsimp only at h
  by_cases hl : l.length < 8796093022208
  · rw [if_pos hl] at h
    refine ⟨hl, ?_⟩
    obtain ⟨⟨a0, s1, p1, e1⟩, h1, hc⟩ := Option.bind_eq_some_iff.mp hc
    obtain ⟨⟨a1, s2, p2, e2⟩, h2, hc⟩ := Option.bind_eq_some_iff.mp hc
    dsimp only at h1 h2 hc
    simp only [Option.some.injEq, Prod.mk.injEq] at hc
    obtain ⟨rfl, rfl, rfl, rfl⟩ := hc
    exact ⟨_, _, _, _, _, _, _, ⟨h1, h2⟩, h⟩
  · rw [if_neg hl] at h; cases h
theorem own_set2 {w : World} {base e size n t b i : Nat} {v : Value} {xs : List Value} (u : Value) (h : w.ownsRow base e size v n xs) (hb : ∃ cs, w.heap[b]? = some (.cells cs t (0, 0))) (hne : e ≠ t) : (w.setCell ⟨b, i, none⟩ u).ownsRow base e size v n xs ∧ ∃ cs, (w.setCell ⟨b, i, none⟩ u).heap[b]? = some (.cells cs t (0, 0)) := by
  obtain ⟨cs, hb⟩ := hb
  refine ⟨own_move h (fun k hk => ?_), cs.setIfInBounds i u, ?_⟩
  · obtain ⟨cs', hc⟩ := own_type h hk
    exact Below.heap_setCell w _ u k (blk_ne hc hb hne)
  · simp [World.setCell, Array.getElem?_modify, hb]
theorem own_set5 {w : World} {base e size n t b : Nat} {v : Value} {xs : List Value} (u0 u1 u2 u3 u4 : Value) (h : w.ownsRow base e size v n xs) (hb : ∃ cs, w.heap[b]? = some (.cells cs t (0, 0))) (hne : e ≠ t) : (((((w.setCell ⟨b, 0, none⟩ u0).setCell ⟨b, 1, none⟩ u1).setCell ⟨b, 2, none⟩ u2).setCell ⟨b, 3, none⟩ u3).setCell ⟨b, 4, none⟩ u4).ownsRow base e size v n xs := by
  obtain ⟨h, hb⟩ := own_set2 (i := 0) u0 h hb hne
  obtain ⟨h, hb⟩ := own_set2 (i := 1) u1 h hb hne
  obtain ⟨h, hb⟩ := own_set2 (i := 2) u2 h hb hne
  obtain ⟨h, hb⟩ := own_set2 (i := 3) u3 h hb hne
  exact (own_set2 (i := 4) u4 h hb hne).1
theorem below_set5 {B b : Nat} {w0 w : World} (u0 u1 u2 u3 u4 : Value) (h : Below B w0 w) (hb : B ≤ b) : Below B w0 (((((w.setCell ⟨b, 0, none⟩ u0).setCell ⟨b, 1, none⟩ u1).setCell ⟨b, 2, none⟩ u2).setCell ⟨b, 3, none⟩ u3).setCell ⟨b, 4, none⟩ u4) :=
  ((((h.setCell (p := ⟨b, 0, none⟩) hb u0).setCell (p := ⟨b, 1, none⟩) hb u1).setCell (p := ⟨b, 2, none⟩) hb u2).setCell (p := ⟨b, 3, none⟩) hb u3).setCell (p := ⟨b, 4, none⟩) hb u4
def edit_Parse.Post (w : World) (R : Int × Int × Int × List S107 × List S111 × Int) (e : Ending) (w' : World) : Prop :=
  ∃ v3_ v4_ : Value, e = .returned (.tuple #[.agg #[.int .u64 R.1, .int .u64 R.2.1, .int .u64 R.2.2.1, v3_, v4_], .int .i64 R.2.2.2.2.2]) ∧ Kd.R k107 107 w' w.heap.size (fun _ => True) v3_ R.2.2.2.1 ∧ Kd.R k111 111 w' w.heap.size (fun _ => True) v4_ R.2.2.2.2.1 ∧ Below w.heap.size w w'
theorem edit_Parse.info107 : (Tryd.prog.info? 107).map (fun i => (i.zero, i.size, i.bytes)) = some (some (.agg #[(.int .i64 0), (.int .u64 0), (.int .u64 0), (.int .u64 0), (.string ⟨#[]⟩), (.string ⟨#[]⟩)]), 6, 64) := by kernel_rfl
theorem edit_Parse.info111 : (Tryd.prog.info? 111).map (fun i => (i.zero, i.size, i.bytes)) = some (some (.agg #[(.int .i64 0), (.int .u64 0)]), 2, 16) := by kernel_rfl
def edit_Parse.J1 (w : World) (g b2 b5 : Nat) (lg nx sq n : Int) (C : List S107 × ByteArray × Int × Int) (i : Int) (W : World) : Prop :=
  ∃ (m : Nat) (s : ByteArray) (p e : Int) (v3 : Value) (l3 : List S107), 0 ≤ i ∧ i + m = n ∧ edit_Parse.St w g b2 b5 s p e #[.int .u64 lg, .int .u64 nx, .int .u64 sq, v3, .slice none 0 0] v3 l3 (.slice none 0 0) [] W ∧ edit_Parse.comes m s p e l3 = some C
def edit_Parse.J2 (w : World) (g b2 b5 : Nat) (lg nx sq n : Int) (l3 : List S107) (v3 : Value) (C : List S111 × ByteArray × Int × Int) (i : Int) (W : World) : Prop :=
  ∃ (m : Nat) (s : ByteArray) (p e : Int) (v4 : Value) (l4 : List S111), 0 ≤ i ∧ i + m = n ∧ edit_Parse.St w g b2 b5 s p e #[.int .u64 lg, .int .u64 nx, .int .u64 sq, v3, v4] v3 l3 v4 l4 W ∧ edit_Parse.gones m s p e l4 = some C
structure edit_Parse.Parts (a0 : ByteArray) (R : Int × Int × Int × List S107 × List S111 × Int) (n1 n2 n3 n4 n6 z : Int) (s1 s2 s3 s4 s5 s6 s7 s8 : ByteArray) (p1 p2 p3 p4 p5 p6 p7 p8 e1 e2 e3 e4 e5 e6 e7 e8 : Int) (l3 : List S107) (l4 : List S111) : Prop where
  a1 : varint_Reader_Num.f a0 0 0 = some (n1, s1, p1, e1)
  a2 : varint_Reader_Num.f s1 p1 e1 = some (n2, s2, p2, e2)
  a3 : varint_Reader_Num.f s2 p2 e2 = some (n3, s3, p3, e3)
  a4 : edit_count.f s3 p3 e3 = some (n4, s4, p4, e4)
  a5 : edit_Parse.comes n4.toNat s4 p4 e4 [] = some (l3, s5, p5, e5)
  a6 : edit_count.f s5 p5 e5 = some (n6, s6, p6, e6)
  a7 : edit_Parse.gones n6.toNat s6 p6 e6 [] = some (l4, s7, p7, e7)
  a8 : varint_Reader_End.f s7 p7 e7 = some (z, s8, p8, e8)
  hr : edit_Parse.fin n1 n2 n3 l3 l4 z = R
  h4 : 0 ≤ n4 ∧ n4 ≤ 18446744073709551615
  h6 : 0 ≤ n6 ∧ n6 ≤ 18446744073709551615
theorem edit_Parse.parts {a0 : ByteArray} {R : Int × Int × Int × List S107 × List S111 × Int} (h : edit_Parse.f a0 = some R) : ∃ n1 n2 n3 n4 n6 z s1 s2 s3 s4 s5 s6 s7 s8 p1 p2 p3 p4 p5 p6 p7 p8 e1 e2 e3 e4 e5 e6 e7 e8 l3 l4, edit_Parse.Parts a0 R n1 n2 n3 n4 n6 z s1 s2 s3 s4 s5 s6 s7 s8 p1 p2 p3 p4 p5 p6 p7 p8 e1 e2 e3 e4 e5 e6 e7 e8 l3 l4 := by
  obtain ⟨⟨n1, s1, p1, e1⟩, A1, h⟩ := Option.bind_eq_some_iff.mp h
  obtain ⟨⟨n2, s2, p2, e2⟩, A2, h⟩ := Option.bind_eq_some_iff.mp h
  obtain ⟨⟨n3, s3, p3, e3⟩, A3, h⟩ := Option.bind_eq_some_iff.mp h
  obtain ⟨⟨n4, s4, p4, e4⟩, A4, h⟩ := Option.bind_eq_some_iff.mp h
  dsimp only at A1 A2 A3 A4 h
  by_cases hn4 : 0 ≤ n4 ∧ n4 ≤ 18446744073709551615
  · rw [if_pos hn4] at h
    obtain ⟨⟨l3, s5, p5, e5⟩, A5, h⟩ := Option.bind_eq_some_iff.mp h
    obtain ⟨⟨n6, s6, p6, e6⟩, A6, h⟩ := Option.bind_eq_some_iff.mp h
    dsimp only at A5 A6 h
    by_cases hn6 : 0 ≤ n6 ∧ n6 ≤ 18446744073709551615
    · rw [if_pos hn6] at h
      obtain ⟨⟨l4, s7, p7, e7⟩, A7, h⟩ := Option.bind_eq_some_iff.mp h
      obtain ⟨⟨z, s8, p8, e8⟩, A8, h⟩ := Option.bind_eq_some_iff.mp h
      dsimp only at A7 A8 h
      exact ⟨_, _, _, _, _, _, _, _, _, _, _, _, _, _, _, _, _, _, _, _, _, _, _, _, _, _, _, _, _, _, _, _, A1, A2, A3, A4, A5, A6, A7, A8, Option.some.inj h, hn4, hn6⟩
    · rw [if_neg hn6] at h; cases h
  · rw [if_neg hn4] at h; cases h
set_option maxHeartbeats 1000000 in
set_option maxRecDepth 100000 in
theorem edit_Parse.walk (a0 : ByteArray) (R : Int × Int × Int × List S107 × List S111 × Int) (w : World) (h : edit_Parse.f a0 = some R) : Calls Tryd.prog 18 #[.string a0] w (edit_Parse.Post w R) := by
  obtain ⟨n1, n2, n3, n4, n6, z, s1, s2, s3, s4, s5, s6, s7, s8, p1, p2, p3, p4, p5, p6, p7, p8, e1, e2, e3, e4, e5, e6, e7, e8, l3, l4, A⟩ := edit_Parse.parts h
  clear h
  obtain ⟨hn4, hu4⟩ := A.h4
  obtain ⟨hn6, hu6⟩ := A.h6
  go_enter Tryd.func18, Tryd.ntmps18
  go_wp2_with fail
  refine (varint_Over.calls a0 a0 0 0 w _ ((Below.refl _ w).alloc (Nat.le_refl _) _) rfl).mono ?_
  rintro e W1 ⟨g, rfl, hi1', hb1, hb1'⟩
  have h21 : W1.heap[w.heap.size]? = some (.cells edit_zero26 26 (0, 0)) := (hb1'.block _ (by simp)).trans (heap_alloc_new w _)
  go_wp2_with fail
  refine (varint_Reader_Num.calls g _ _ _ _ _ _ _ w _ hi1' hb1 A.a1).mono ?_
  rintro e W2 ⟨rfl, hi2, hb2, hk2⟩
  have h22 := blk_kept_keep h21 hk2 hi1'.1 (by decide)
  go_wp2_with fail
  refine (varint_Reader_Num.calls g _ _ _ _ _ _ _ w _ hi2 hb2 A.a2).mono ?_
  rintro e W3 ⟨rfl, hi3, hb3, hk3⟩
  have h23 := blk_kept_keep h22 hk3 hi2.1 (by decide)
  go_wp2_with fail
  refine (varint_Reader_Num.calls g _ _ _ _ _ _ _ w _ hi3 hb3 A.a3).mono ?_
  rintro e W4 ⟨rfl, hi4, hb4, hk4⟩
  have h24 := blk_kept_keep h23 hk4 hi3.1 (by decide)
  go_wp2_with fail
  refine (edit_count.calls g _ _ _ _ _ _ _ w _ (hi4.alloc _) (below_alloc hb4 _) A.a4).mono ?_
  rintro e W5 ⟨rfl, hi5, hb5, hk5⟩
  have S0 : edit_Parse.St w g w.heap.size W4.heap.size s3 p3 e3 #[.int .u64 n1, .int .u64 n2, .int .u64 n3, .slice none 0 0, .slice none 0 0] (.slice none 0 0) [] (.slice none 0 0) [] (W4.alloc (.cells #[.int .u64 n1, .int .u64 n2, .int .u64 n3, .slice none 0 0, .slice none 0 0] 26)) :=
    ⟨hi4.alloc _, blk_alloc h24 _, heap_alloc_new _ _, World.ownsRow_nil _ _ _ _, World.ownsRow_nil _ _ _ _, below_alloc hb4 _, Nat.le_refl _, hb4.size, fun h => by have := heap_lt h24; omega⟩
  have S5 := S0.call hi5 hb5 hk5
  obtain ⟨b5, hb5e⟩ : ∃ b, b = W4.heap.size := ⟨_, rfl⟩
  rw [← hb5e] at S5 ⊢
  have X5 := Hush.mk hb5e
  clear S0 h24 h23 h22 h21 hi1' hi2 hi3 hi4 hi5 hb1 hb1' hb2 hb3 hb4 hb5 hk2 hk3 hk4 hk5 hb5e
  go_wp2_with fail
  go_loopw [7] (fun i wr => ∃ iv : Int, i = .int .u64 iv ∧ edit_Parse.J1 w g w.heap.size b5 n1 n2 n3 n4 (l3, s5, p5, e5) iv wr) (fun i _ => (n4 - intOf i).toNat)
  case atStart => exact ⟨0, rfl, n4.toNat, s4, p4, e4, _, _, by omega, by omega, S5, A.a5⟩
  case round =>
    obtain ⟨iv, rfl, m, s, p, e, v3, l, hi0, him, hS, hc⟩ := hrel
    clear S5
    have HC := Hush.mk hc
    clear hc
    by_cases hgo : iv < n4 ∧ e = 0
    · obtain ⟨hlt, he⟩ := hgo
      obtain ⟨m, rfl⟩ : ∃ m', m = m' + 1 := ⟨m - 1, by omega⟩
      obtain ⟨hll, a, t1, t2, t3, t4, t5, t6, q1, q2, q3, q4, q5, q6, f1, f2, f3, f4, f5, f6, HCm, hcs⟩ := edit_Parse.comes_go (he ▸ HC.out)
      have HN := Hush.mk hcs
      subst he
      clear HC hcs
      go_wp2_with fail
      refine (varint_Reader_Err.calls g s p 0 0 s p 0 w wr hS.rd hS.bel rfl).mono ?_
      rintro e W6 ⟨rfl, hi6, hb6, hk6⟩
      have S6 := hS.call hi6 hb6 hk6
      clear hS hi6 hb6 hk6
      go_wp2_with fail
      refine (edit_levelOf.calls g _ _ _ _ _ _ _ w _ S6.rd S6.bel HCm.c1).mono ?_
      rintro e W7 ⟨rfl, hi7, hb7, hk7⟩
      have S7 := S6.call hi7 hb7 hk7
      clear S6 hi7 hb7 hk7
      have hv3 : v3.ownBlock ≠ some W7.heap.size := fun h => by have := (S7.o3.lt _ h).2; omega
      have ha8 := heap_alloc_new W7 (.cells #[.int .i64 a.f0, .int .u64 0, .int .u64 0, .int .u64 0, .string ⟨#[]⟩, .string ⟨#[]⟩] 107)
      have S8 := S7.alloc (.cells #[.int .i64 a.f0, .int .u64 0, .int .u64 0, .int .u64 0, .string ⟨#[]⟩, .string ⟨#[]⟩] 107)
      have hga : w.heap.size ≤ W7.heap.size := S7.bel.size
      clear S7
      go_wp2_with fail
      obtain ⟨W8, hW8⟩ : ∃ W, W = W7.alloc (.cells #[.int .i64 a.f0, .int .u64 0, .int .u64 0, .int .u64 0, .string ⟨#[]⟩, .string ⟨#[]⟩] 107) := ⟨_, rfl⟩
      rw [← hW8] at S8 ha8 ⊢
      obtain ⟨ba, hba⟩ : ∃ b, b = W7.heap.size := ⟨_, rfl⟩
      rw [← hba] at ha8 hv3 hga ⊢
      clear hba hW8
      refine (varint_Reader_Num.calls g _ _ _ _ _ _ _ w _ S8.rd S8.bel HCm.c2).mono ?_
      rintro e W9 ⟨rfl, hi, hb, hk⟩
      have S9 := S8.call hi hb hk
      have ha9 := blk_kept_keep ha8 hk S8.rd.1 (by decide)
      clear S8 ha8 hi hb hk
      go_wp2_with fail
      refine (varint_Reader_Num.calls g _ _ _ _ _ _ _ w _ S9.rd S9.bel HCm.c3).mono ?_
      rintro e W10 ⟨rfl, hi, hb, hk⟩
      have S10 := S9.call hi hb hk
      have ha10 := blk_kept_keep ha9 hk S9.rd.1 (by decide)
      clear S9 ha9 hi hb hk
      go_wp2_with fail
      refine (varint_Reader_Num.calls g _ _ _ _ _ _ _ w _ S10.rd S10.bel HCm.c4).mono ?_
      rintro e W11 ⟨rfl, hi, hb, hk⟩
      have S11 := S10.call hi hb hk
      have ha11 := blk_kept_keep ha10 hk S10.rd.1 (by decide)
      clear S10 ha10 hi hb hk
      go_wp2_with fail
      refine (varint_Reader_Text.calls g _ _ _ 200 _ _ _ _ w _ S11.rd S11.bel HCm.c5).mono ?_
      rintro e W12 ⟨rfl, hi, hb, hk⟩
      have S12 := S11.call hi hb hk
      have ha12 := blk_kept_keep ha11 hk S11.rd.1 (by decide)
      clear S11 ha11 hi hb hk
      go_wp2_with fail
      refine (varint_Reader_Text.calls g _ _ _ 200 _ _ _ _ w _ S12.rd S12.bel HCm.c6).mono ?_
      rintro e W13 ⟨rfl, hi, hb, hk⟩
      have S13 := S12.call hi hb hk
      have ha13 := blk_kept_keep ha12 hk S12.rd.1 (by decide)
      clear S12 ha12 hi hb hk
      have n5a : b5 ≠ ba := blk_ne S13.h5 ha13 (by decide)
      have na5 : ba ≠ b5 := fun h => n5a h.symm
      have n2a : w.heap.size ≠ ba := blk_ne S13.h2 ha13 (by decide)
      have nga : g ≠ ba := blk_ne S13.rd.1 ha13 (by decide)
      have k0 := (blk_cell ha13 0).trans rfl
      have k1 := (blk_cell ha13 1).trans rfl
      have k2 := (blk_cell ha13 2).trans rfl
      have k3 := (blk_cell ha13 3).trans rfl
      have k4 := (blk_cell ha13 4).trans rfl
      have k5 := (blk_cell ha13 5).trans rfl
      have z1 := blk_frozen ha13 1
      have z2 := blk_frozen ha13 2
      have z3 := blk_frozen ha13 3
      have z4 := blk_frozen ha13 4
      have z5 := blk_frozen ha13 5
      have y3 := (blk_cell S13.h5 3).trans rfl
      obtain ⟨WX, hWX⟩ : ∃ W, W = ((((W13.setCell ⟨ba, 1, none⟩ (.int .u64 a.f1.f0)).setCell ⟨ba, 2, none⟩ (.int .u64 a.f1.f1)).setCell ⟨ba, 3, none⟩ (.int .u64 a.f1.f2)).setCell ⟨ba, 4, none⟩ (.string a.f1.f3)).setCell ⟨ba, 5, none⟩ (.string a.f1.f4) := ⟨_, rfl⟩
      have SX : edit_Parse.St w g w.heap.size b5 t6 q6 f6 #[.int .u64 n1, .int .u64 n2, .int .u64 n3, v3, .slice none 0 0] v3 l (.slice none 0 0) [] WX := by
        rw [hWX]
        exact ((((S13.far (b := ba) (i := 1) (.int .u64 a.f1.f0) hga nga n2a n5a hv3 (by simp [Value.ownBlock])).far (b := ba) (i := 2) (.int .u64 a.f1.f1) hga nga n2a n5a hv3 (by simp [Value.ownBlock])).far (b := ba) (i := 3) (.int .u64 a.f1.f2) hga nga n2a n5a hv3 (by simp [Value.ownBlock])).far (b := ba) (i := 4) (.string a.f1.f3) hga nga n2a n5a hv3 (by simp [Value.ownBlock])).far (b := ba) (i := 5) (.string a.f1.f4) hga nga n2a n5a hv3 (by simp [Value.ownBlock])
      have LX := Hush.mk hll
      have HX := Hush.mk hWX
      have SY := SX.alloc (.cells #[.int .i64 a.f0, .int .u64 a.f1.f0, .int .u64 a.f1.f1, .int .u64 a.f1.f2, .string a.f1.f3, .string a.f1.f4] 107)
      have NY : ∀ j u, (edit_cells107 a)[j]? = some u → (WX.alloc (.cells #[.int .i64 a.f0, .int .u64 a.f1.f0, .int .u64 a.f1.f1, .int .u64 a.f1.f2, .string a.f1.f3, .string a.f1.f4] 107)).cell? ((⟨WX.heap.size, 0, none⟩ : Addr).add j) = some u := cells_new WX (edit_cells107 a) 107
      have SZ := Hush.mk SY.bel.size
      have SY := Hush.mk SY
      have NY := Hush.mk NY
      clear hv3 hWX SX hll
      rename_i SY0 NY0
      clear SY0 NY0 ha13 S13
      obtain ⟨I7, HI7, HZ0, HZ1, HZ2⟩ := info_parts edit_Parse.info107
      go_wp2_with (at_builtin; rw [← HX.out]; refine wpList_append_own _ rfl _ _ 23 rfl w.heap.size 107 I7 _ 6 64 Tryd.underlying23 HI7 HZ0 HZ1 HZ2 rfl (by decide) v3 l.length (l.flatMap edit_cells107) rfl SY.out.o3 ⟨WX.heap.size, 0, none⟩ 1 1 (edit_cells107 a) ?ca rfl NY.out ?c2 ?c3 ?c4 ?c5 ?_)
      case ca =>
        have hsz : WX.heap.size = W13.heap.size := by rw [HX.out]; simp [World.setCell]
        rw [hsz]
        rfl
      case c2 => intro u hu; simp [edit_cells107] at hu; rcases hu with rfl | rfl | rfl | rfl | rfl | rfl <;> rfl
      case c3 => have := LX.out; unfold maxLen; omega
      case c4 => have := LX.out; omega
      case c5 => exact SZ.out
      intro v' w1 hown1 hgrow _
      have SP := SY.out.push3 hown1 hgrow
      obtain ⟨A', cap', rfl⟩ : ∃ A' c', v' = .slice A' (l.length + 1) c' := by
        rcases hown1.2 with ⟨rfl, h0⟩ | ⟨g', cap, cur, rfl, _⟩
        · simp [edit_cells107] at h0
        · exact ⟨_, _, rfl⟩
      have y4 := (blk_cell SP.h5 3).trans rfl
      have x4 := blk_frozen SP.h5 3
      have SQ := Hush.mk (SP.set5 3 (.slice A' (l.length + 1) cap'))
      clear SP hown1 hgrow n5a na5 k0 k1 k2 k3 k4 k5 z1 z2 z3 z4 z5 y3
      go_wp2
      go_roundw
      case rel => exact ⟨iv + 1, by go_num, m, t6, q6, f6, _, l ++ [a], by omega, by omega, SQ.out, HN.out⟩
      case measure => simp [intOf]; omega
    · have hst := edit_Parse.comes_stop HC.out (by omega)
      simp only [Prod.mk.injEq] at hst
      obtain ⟨rfl, rfl, rfl, rfl⟩ := hst
      clear HC
      by_cases hlt : iv < n4
      · have he : (e == 0) = false := by simpa using (fun h => hgo ⟨hlt, h⟩ : ¬ e = 0)
        clear hgo
        go_wp2_with fail
        refine (varint_Reader_Err.calls g s p e e s p e w wr hS.rd hS.bel rfl).mono ?_
        rintro e_ W6 ⟨rfl, hi6, hb6, hk6⟩
        have S6 := hS.call hi6 hb6 hk6
        clear hS hi6 hb6 hk6
        go_wp2_with fail
        refine (edit_count.calls g _ _ _ _ _ _ _ w _ S6.rd S6.bel A.a6).mono ?_
        rintro e_ W20 ⟨rfl, hi20, hb20, hk20⟩
        have T0 := S6.call hi20 hb20 hk20
        clear S6 hi20 hb20 hk20
        go_wp2_with fail
        go_loopw [9] (fun i wr => ∃ iv : Int, i = .int .u64 iv ∧ edit_Parse.J2 w g w.heap.size b5 n1 n2 n3 n6 l v3 (l4, s7, p7, e7) iv wr) (fun i _ => (n6 - intOf i).toNat)
        case atStart => exact ⟨0, rfl, n6.toNat, s6, p6, e6, _, _, by omega, by omega, T0, A.a7⟩
        case round =>
          clear T0
          obtain ⟨iv, rfl, m, s, p, e, v4, lg, hi0, him, hT, hc⟩ := hrel
          have HC := Hush.mk hc
          clear hc
          by_cases hgo : iv < n6 ∧ e = 0
          · obtain ⟨hlt2, he⟩ := hgo
            obtain ⟨m, rfl⟩ : ∃ m', m = m' + 1 := ⟨m - 1, by omega⟩
            obtain ⟨hll, a, t1, t2, q1, q2, f1, f2, HCm, hcs⟩ := edit_Parse.gones_go (he ▸ HC.out)
            have HN := Hush.mk hcs
            have LX := Hush.mk hll
            subst he
            clear HC hcs hll
            go_wp2_with fail
            refine (varint_Reader_Err.calls g s p 0 0 s p 0 w wr hT.rd hT.bel rfl).mono ?_
            rintro e_ W21 ⟨rfl, hi, hb, hk⟩
            have T1 := hT.call hi hb hk
            have y1 : W21.cell? ⟨b5, 4, none⟩ = some v4 := blk_cell T1.h5 4
            clear hT hi hb hk
            go_wp2_with fail
            obtain ⟨hc1, hc2⟩ := HCm
            have T1 := T1.drew
            have HC1 := Hush.mk hc1
            have HC2 := Hush.mk hc2
            clear hc1 hc2
            obtain ⟨I7, HI7, HZ0, HZ1, HZ2⟩ := info_parts edit_Parse.info111
            go_region_law (first | (refine step_append_lies _ rfl _ _ 24 rfl w.heap.size 111 I7 _ 2 16 Tryd.underlying24 HI7 HZ0 HZ1 HZ2 rfl (by decide) v4 lg.length (lg.flatMap edit_cells111) rfl (T3.alloc (.cells #[.int .i64 a.f0, .int .u64 a.f1] 111)).o4 ⟨W23.heap.size, 0, none⟩ 1 1 (edit_cells111 a) rfl rfl (cells_new W23 (edit_cells111 a) 111) (by intro u hu; simp [edit_cells111] at hu; rcases hu with rfl | rfl <;> rfl) (by decide) (by have := LX.out; unfold maxLen; omega) (by have := LX.out; omega) (T3.alloc (.cells #[.int .i64 a.f0, .int .u64 a.f1] 111)).bel.size _ rfl ?_; intro g' cap' w1 hown1 hgrow _ _; have TP := (T3.alloc (.cells #[.int .i64 a.f0, .int .u64 a.f1] 111)).push4 hown1 hgrow; have y4 := (blk_cell TP.h5 4).trans rfl; have x4 := blk_frozen TP.h5 4; have TQ := Hush.mk (TP.set5 4 (.slice (some ⟨g', 0, none⟩) (lg.length + 1) cap')); clear TP hown1 hgrow) | (go_simp; go_at_call 59; refine (edit_levelOf.calls g s p 0 a.f0 t1 q1 f1 w _ T1.rd T1.bel HC1.out).mono ?_; rintro e_ W22 ⟨rfl, hi, hb, hk⟩; have T2 : edit_Parse.St w g w.heap.size b5 t1 q1 f1 _ v3 l v4 lg W22 := T1.call hi hb hk; have y2 : W22.cell? ⟨b5, 4, none⟩ = some v4 := blk_cell T2.h5 4; clear hi hb hk) | (go_simp; go_at_call 56; refine (varint_Reader_Num.calls g t1 q1 f1 a.f1 t2 q2 f2 w _ T2.rd T2.bel HC2.out).mono ?_; rintro e_ W23 ⟨rfl, hi, hb, hk⟩; have T3 : edit_Parse.St w g w.heap.size b5 t2 q2 f2 _ v3 l v4 lg W23 := T2.call hi hb hk; have y3 : W23.cell? ⟨b5, 4, none⟩ = some v4 := blk_cell T3.h5 4; have y3a : (W23.alloc (.cells #[.int .i64 a.f0, .int .u64 a.f1] 111)).cell? ⟨b5, 4, none⟩ = some v4 := blk_cell (T3.alloc (.cells #[.int .i64 a.f0, .int .u64 a.f1] 111)).h5 4; clear hi hb hk))
            all_goals
              go_wp2
              go_roundw
              case rel => exact ⟨iv + 1, by go_num, m, t2, q2, f2, _, lg ++ [a], by omega, by omega, TQ.out, HN.out⟩
              case measure => simp [intOf]; omega
          · have hst := edit_Parse.gones_stop HC.out (by omega)
            simp only [Prod.mk.injEq] at hst
            obtain ⟨rfl, rfl, rfl, rfl⟩ := hst
            clear HC
            by_cases hlt2 : iv < n6
            · have he : (e == 0) = false := by simpa using (fun h => hgo ⟨hlt2, h⟩ : ¬ e = 0)
              clear hgo
              go_wp2_with fail
              refine (varint_Reader_Err.calls g s p e e s p e w wr hT.rd hT.bel rfl).mono ?_
              rintro e_ W21 ⟨rfl, hi, hb, hk⟩
              have T1 := hT.call hi hb hk
              clear hT hi hb hk
              go_wp2_with fail
              refine (varint_Reader_End.calls g _ _ _ _ _ _ _ w _ T1.rd T1.bel A.a8).mono ?_
              rintro e_ W30 ⟨rfl, hi, hb, hk⟩
              have U := T1.call hi hb hk
              have HA := Hush.mk A.hr
              clear T1 hi hb hk
              have R3 := R_of_own (d := k107) edit_cells107 (fun _ => rfl) (fun ok x => k107_mkM _ _ ok x) U.o3
              have R4 := R_of_own (d := k111) edit_cells111 (fun _ => rfl) (fun ok x => k111_mkM _ _ ok x) U.o4
              obtain ⟨A3, c3, rfl, _, hC3⟩ := Kd.R_reads R3
              obtain ⟨A4, c4, rfl, _, hC4⟩ := Kd.R_reads R4
              have C3 := Hush.mk hC3
              have C4 := Hush.mk hC4
              have R3 := Hush.mk R3
              have R4 := Hush.mk R4
              have x0 : W30.cell? ⟨b5, 0, none⟩ = some (.int .u64 n1) := blk_cell U.h5 0
              have x1 : W30.cell? ⟨b5, 1, none⟩ = some (.int .u64 n2) := blk_cell U.h5 1
              have x2 : W30.cell? ⟨b5, 2, none⟩ = some (.int .u64 n3) := blk_cell U.h5 2
              have x3 : W30.cell? ⟨b5, 3, none⟩ = some (.slice A3 l.length c3) := blk_cell U.h5 3
              have x4 : W30.cell? ⟨b5, 4, none⟩ = some (.slice A4 lg.length c4) := blk_cell U.h5 4
              clear hC3 hC4
              by_cases hz : z = 0
              · have hz1 : (z == 0) = true := by simpa using hz
                have HZ := Hush.mk hz
                clear hz
                go_wp2_with fail
                refine (edit_Edit_Check.walk n1 n2 n3 A3 c3 l A4 c4 lg W30 C3.out C4.out).mono ?_
                rintro e_ W31 ⟨rfl, hb31⟩
                have h2' := (hb31.block _ (heap_lt U.h2)).trans U.h2
                have h5' := (hb31.block _ (heap_lt U.h5)).trans U.h5
                have o3' := Hush.mk (own_move U.o3 (fun k hk => by obtain ⟨cs, hc⟩ := own_type U.o3 hk; exact hb31.block _ (heap_lt hc)))
                have o4' := Hush.mk (own_move U.o4 (fun k hk => by obtain ⟨cs, hc⟩ := own_type U.o4 hk; exact hb31.block _ (heap_lt hc)))
                have bel' := Hush.mk (U.bel.trans (hb31.mono U.bel.size))
                have x0 : W31.cell? ⟨b5, 0, none⟩ = some (.int .u64 n1) := blk_cell h5' 0
                have x1 : W31.cell? ⟨b5, 1, none⟩ = some (.int .u64 n2) := blk_cell h5' 1
                have x2 : W31.cell? ⟨b5, 2, none⟩ = some (.int .u64 n3) := blk_cell h5' 2
                have x3 : W31.cell? ⟨b5, 3, none⟩ = some (.slice A3 l.length c3) := blk_cell h5' 3
                have x4 : W31.cell? ⟨b5, 4, none⟩ = some (.slice A4 lg.length c4) := blk_cell h5' 4
                have d0 : W31.cell? ⟨w.heap.size, 0, none⟩ = some (.int .u64 0) := blk_cell h2' 0
                have f0 := blk_frozen h2' 0
                have d1 : W31.cell? ⟨w.heap.size, 1, none⟩ = some (.int .u64 0) := blk_cell h2' 1
                have f1 := blk_frozen h2' 1
                have d2 : W31.cell? ⟨w.heap.size, 2, none⟩ = some (.int .u64 0) := blk_cell h2' 2
                have f2 := blk_frozen h2' 2
                have d3 : W31.cell? ⟨w.heap.size, 3, none⟩ = some (.slice none 0 0) := blk_cell h2' 3
                have f3 := blk_frozen h2' 3
                have d4 : W31.cell? ⟨w.heap.size, 4, none⟩ = some (.slice none 0 0) := blk_cell h2' 4
                have f4 := blk_frozen h2' 4
                have H2 := Hush.mk h2'
                clear h2' h5' hb31 U
                obtain ⟨cv, hcv⟩ : ∃ c, c = edit_Edit_Check.val l lg := ⟨_, rfl⟩
                rw [← hcv]
                have HV := Hush.mk hcv
                clear hcv
                by_cases hv : cv = 0
                · have hv1 : (cv == 0) = true := by simpa using hv
                  have hv2 : (cv != 0) = false := by simpa using hv
                  have HR : Hush (R = (n1, n2, n3, l, lg, 0)) := ⟨by rw [← HA.out, edit_Parse.fin, if_pos HZ.out, ← HV.out, if_pos hv]⟩
                  clear hv
                  go_wp2
                  obtain rfl := HR.out
                  exact bodyPost_ret (v := .tuple #[.agg #[.int .u64 n1, .int .u64 n2, .int .u64 n3, .slice A3 l.length c3, .slice A4 lg.length c4], .int .i64 0]) (by simp [results, Tryd.results18, go_sem, d0, d1, d2, d3, d4]) rfl
                    ⟨_, _, rfl, R_of_own (d := k107) edit_cells107 (fun _ => rfl) (fun ok x => k107_mkM _ _ ok x) (own_set5 _ _ _ _ _ o3'.out ⟨_, H2.out⟩ (by decide)), R_of_own (d := k111) edit_cells111 (fun _ => rfl) (fun ok x => k111_mkM _ _ ok x) (own_set5 _ _ _ _ _ o4'.out ⟨_, H2.out⟩ (by decide)), below_set5 _ _ _ _ _ bel'.out (Nat.le_refl _)⟩
                · have hv1 : (cv == 0) = false := by simpa using hv
                  have hv2 : (cv != 0) = true := by simpa using hv
                  have HR : Hush (R = (0, 0, 0, [], [], cv)) := ⟨by rw [← HA.out, edit_Parse.fin, if_pos HZ.out, ← HV.out, if_neg hv]⟩
                  clear hv
                  go_wp2
                  obtain rfl := HR.out
                  exact bodyPost_ret (v := .tuple #[.agg #[.int .u64 0, .int .u64 0, .int .u64 0, .slice none 0 0, .slice none 0 0], .int .i64 cv]) (by simp [results, Tryd.results18, go_sem, d0, d1, d2, d3, d4]) rfl ⟨_, _, rfl, Kd.R_nil _ _ _ _ _, Kd.R_nil _ _ _ _ _, below_set5 _ _ _ _ _ bel'.out (Nat.le_refl _)⟩
              · have hz1 : (z == 0) = false := by simpa using hz
                have hz2 : (z != 0) = true := by simpa using hz
                have HR : Hush (R = (0, 0, 0, [], [], z)) := ⟨by rw [← HA.out, edit_Parse.fin, if_neg hz]⟩
                clear hz
                have d0 : W30.cell? ⟨w.heap.size, 0, none⟩ = some (.int .u64 0) := blk_cell U.h2 0
                have f0 := blk_frozen U.h2 0
                have d1 : W30.cell? ⟨w.heap.size, 1, none⟩ = some (.int .u64 0) := blk_cell U.h2 1
                have f1 := blk_frozen U.h2 1
                have d2 : W30.cell? ⟨w.heap.size, 2, none⟩ = some (.int .u64 0) := blk_cell U.h2 2
                have f2 := blk_frozen U.h2 2
                have d3 : W30.cell? ⟨w.heap.size, 3, none⟩ = some (.slice none 0 0) := blk_cell U.h2 3
                have f3 := blk_frozen U.h2 3
                have d4 : W30.cell? ⟨w.heap.size, 4, none⟩ = some (.slice none 0 0) := blk_cell U.h2 4
                have f4 := blk_frozen U.h2 4
                have HU := Hush.mk U
                clear U
                go_wp2
                obtain rfl := HR.out
                exact bodyPost_ret (v := .tuple #[.agg #[.int .u64 0, .int .u64 0, .int .u64 0, .slice none 0 0, .slice none 0 0], .int .i64 z]) (by simp [results, Tryd.results18, go_sem, d0, d1, d2, d3, d4]) rfl ⟨_, _, rfl, Kd.R_nil _ _ _ _ _, Kd.R_nil _ _ _ _ _, below_set5 _ _ _ _ _ HU.out.bel (Nat.le_refl _)⟩
            · clear hgo
              go_wp2_with fail
              refine (varint_Reader_End.calls g _ _ _ _ _ _ _ w _ hT.rd hT.bel A.a8).mono ?_
              rintro e_ W30 ⟨rfl, hi, hb, hk⟩
              have U := hT.call hi hb hk
              have HA := Hush.mk A.hr
              clear hT hi hb hk
              have R3 := R_of_own (d := k107) edit_cells107 (fun _ => rfl) (fun ok x => k107_mkM _ _ ok x) U.o3
              have R4 := R_of_own (d := k111) edit_cells111 (fun _ => rfl) (fun ok x => k111_mkM _ _ ok x) U.o4
              obtain ⟨A3, c3, rfl, _, hC3⟩ := Kd.R_reads R3
              obtain ⟨A4, c4, rfl, _, hC4⟩ := Kd.R_reads R4
              have C3 := Hush.mk hC3
              have C4 := Hush.mk hC4
              have R3 := Hush.mk R3
              have R4 := Hush.mk R4
              have x0 : W30.cell? ⟨b5, 0, none⟩ = some (.int .u64 n1) := blk_cell U.h5 0
              have x1 : W30.cell? ⟨b5, 1, none⟩ = some (.int .u64 n2) := blk_cell U.h5 1
              have x2 : W30.cell? ⟨b5, 2, none⟩ = some (.int .u64 n3) := blk_cell U.h5 2
              have x3 : W30.cell? ⟨b5, 3, none⟩ = some (.slice A3 l.length c3) := blk_cell U.h5 3
              have x4 : W30.cell? ⟨b5, 4, none⟩ = some (.slice A4 lg.length c4) := blk_cell U.h5 4
              clear hC3 hC4
              by_cases hz : z = 0
              · have hz1 : (z == 0) = true := by simpa using hz
                have HZ := Hush.mk hz
                clear hz
                go_wp2_with fail
                refine (edit_Edit_Check.walk n1 n2 n3 A3 c3 l A4 c4 lg W30 C3.out C4.out).mono ?_
                rintro e_ W31 ⟨rfl, hb31⟩
                have h2' := (hb31.block _ (heap_lt U.h2)).trans U.h2
                have h5' := (hb31.block _ (heap_lt U.h5)).trans U.h5
                have o3' := Hush.mk (own_move U.o3 (fun k hk => by obtain ⟨cs, hc⟩ := own_type U.o3 hk; exact hb31.block _ (heap_lt hc)))
                have o4' := Hush.mk (own_move U.o4 (fun k hk => by obtain ⟨cs, hc⟩ := own_type U.o4 hk; exact hb31.block _ (heap_lt hc)))
                have bel' := Hush.mk (U.bel.trans (hb31.mono U.bel.size))
                have x0 : W31.cell? ⟨b5, 0, none⟩ = some (.int .u64 n1) := blk_cell h5' 0
                have x1 : W31.cell? ⟨b5, 1, none⟩ = some (.int .u64 n2) := blk_cell h5' 1
                have x2 : W31.cell? ⟨b5, 2, none⟩ = some (.int .u64 n3) := blk_cell h5' 2
                have x3 : W31.cell? ⟨b5, 3, none⟩ = some (.slice A3 l.length c3) := blk_cell h5' 3
                have x4 : W31.cell? ⟨b5, 4, none⟩ = some (.slice A4 lg.length c4) := blk_cell h5' 4
                have d0 : W31.cell? ⟨w.heap.size, 0, none⟩ = some (.int .u64 0) := blk_cell h2' 0
                have f0 := blk_frozen h2' 0
                have d1 : W31.cell? ⟨w.heap.size, 1, none⟩ = some (.int .u64 0) := blk_cell h2' 1
                have f1 := blk_frozen h2' 1
                have d2 : W31.cell? ⟨w.heap.size, 2, none⟩ = some (.int .u64 0) := blk_cell h2' 2
                have f2 := blk_frozen h2' 2
                have d3 : W31.cell? ⟨w.heap.size, 3, none⟩ = some (.slice none 0 0) := blk_cell h2' 3
                have f3 := blk_frozen h2' 3
                have d4 : W31.cell? ⟨w.heap.size, 4, none⟩ = some (.slice none 0 0) := blk_cell h2' 4
                have f4 := blk_frozen h2' 4
                have H2 := Hush.mk h2'
                clear h2' h5' hb31 U
                obtain ⟨cv, hcv⟩ : ∃ c, c = edit_Edit_Check.val l lg := ⟨_, rfl⟩
                rw [← hcv]
                have HV := Hush.mk hcv
                clear hcv
                by_cases hv : cv = 0
                · have hv1 : (cv == 0) = true := by simpa using hv
                  have hv2 : (cv != 0) = false := by simpa using hv
                  have HR : Hush (R = (n1, n2, n3, l, lg, 0)) := ⟨by rw [← HA.out, edit_Parse.fin, if_pos HZ.out, ← HV.out, if_pos hv]⟩
                  clear hv
                  go_wp2
                  obtain rfl := HR.out
                  exact bodyPost_ret (v := .tuple #[.agg #[.int .u64 n1, .int .u64 n2, .int .u64 n3, .slice A3 l.length c3, .slice A4 lg.length c4], .int .i64 0]) (by simp [results, Tryd.results18, go_sem, d0, d1, d2, d3, d4]) rfl
                    ⟨_, _, rfl, R_of_own (d := k107) edit_cells107 (fun _ => rfl) (fun ok x => k107_mkM _ _ ok x) (own_set5 _ _ _ _ _ o3'.out ⟨_, H2.out⟩ (by decide)), R_of_own (d := k111) edit_cells111 (fun _ => rfl) (fun ok x => k111_mkM _ _ ok x) (own_set5 _ _ _ _ _ o4'.out ⟨_, H2.out⟩ (by decide)), below_set5 _ _ _ _ _ bel'.out (Nat.le_refl _)⟩
                · have hv1 : (cv == 0) = false := by simpa using hv
                  have hv2 : (cv != 0) = true := by simpa using hv
                  have HR : Hush (R = (0, 0, 0, [], [], cv)) := ⟨by rw [← HA.out, edit_Parse.fin, if_pos HZ.out, ← HV.out, if_neg hv]⟩
                  clear hv
                  go_wp2
                  obtain rfl := HR.out
                  exact bodyPost_ret (v := .tuple #[.agg #[.int .u64 0, .int .u64 0, .int .u64 0, .slice none 0 0, .slice none 0 0], .int .i64 cv]) (by simp [results, Tryd.results18, go_sem, d0, d1, d2, d3, d4]) rfl ⟨_, _, rfl, Kd.R_nil _ _ _ _ _, Kd.R_nil _ _ _ _ _, below_set5 _ _ _ _ _ bel'.out (Nat.le_refl _)⟩
              · have hz1 : (z == 0) = false := by simpa using hz
                have hz2 : (z != 0) = true := by simpa using hz
                have HR : Hush (R = (0, 0, 0, [], [], z)) := ⟨by rw [← HA.out, edit_Parse.fin, if_neg hz]⟩
                clear hz
                have d0 : W30.cell? ⟨w.heap.size, 0, none⟩ = some (.int .u64 0) := blk_cell U.h2 0
                have f0 := blk_frozen U.h2 0
                have d1 : W30.cell? ⟨w.heap.size, 1, none⟩ = some (.int .u64 0) := blk_cell U.h2 1
                have f1 := blk_frozen U.h2 1
                have d2 : W30.cell? ⟨w.heap.size, 2, none⟩ = some (.int .u64 0) := blk_cell U.h2 2
                have f2 := blk_frozen U.h2 2
                have d3 : W30.cell? ⟨w.heap.size, 3, none⟩ = some (.slice none 0 0) := blk_cell U.h2 3
                have f3 := blk_frozen U.h2 3
                have d4 : W30.cell? ⟨w.heap.size, 4, none⟩ = some (.slice none 0 0) := blk_cell U.h2 4
                have f4 := blk_frozen U.h2 4
                have HU := Hush.mk U
                clear U
                go_wp2
                obtain rfl := HR.out
                exact bodyPost_ret (v := .tuple #[.agg #[.int .u64 0, .int .u64 0, .int .u64 0, .slice none 0 0, .slice none 0 0], .int .i64 z]) (by simp [results, Tryd.results18, go_sem, d0, d1, d2, d3, d4]) rfl ⟨_, _, rfl, Kd.R_nil _ _ _ _ _, Kd.R_nil _ _ _ _ _, below_set5 _ _ _ _ _ HU.out.bel (Nat.le_refl _)⟩
      · clear hgo
        go_wp2_with fail
        refine (edit_count.calls g _ _ _ _ _ _ _ w _ hS.rd hS.bel A.a6).mono ?_
        rintro e_ W20 ⟨rfl, hi20, hb20, hk20⟩
        have T0 := hS.call hi20 hb20 hk20
        clear hS hi20 hb20 hk20
        go_wp2_with fail
        go_loopw [9] (fun i wr => ∃ iv : Int, i = .int .u64 iv ∧ edit_Parse.J2 w g w.heap.size b5 n1 n2 n3 n6 l v3 (l4, s7, p7, e7) iv wr) (fun i _ => (n6 - intOf i).toNat)
        case atStart => exact ⟨0, rfl, n6.toNat, s6, p6, e6, _, _, by omega, by omega, T0, A.a7⟩
        case round =>
          clear T0
          obtain ⟨iv, rfl, m, s, p, e, v4, lg, hi0, him, hT, hc⟩ := hrel
          have HC := Hush.mk hc
          clear hc
          by_cases hgo : iv < n6 ∧ e = 0
          · obtain ⟨hlt2, he⟩ := hgo
            obtain ⟨m, rfl⟩ : ∃ m', m = m' + 1 := ⟨m - 1, by omega⟩
            obtain ⟨hll, a, t1, t2, q1, q2, f1, f2, HCm, hcs⟩ := edit_Parse.gones_go (he ▸ HC.out)
            have HN := Hush.mk hcs
            have LX := Hush.mk hll
            subst he
            clear HC hcs hll
            go_wp2_with fail
            refine (varint_Reader_Err.calls g s p 0 0 s p 0 w wr hT.rd hT.bel rfl).mono ?_
            rintro e_ W21 ⟨rfl, hi, hb, hk⟩
            have T1 := hT.call hi hb hk
            have y1 : W21.cell? ⟨b5, 4, none⟩ = some v4 := blk_cell T1.h5 4
            clear hT hi hb hk
            go_wp2_with fail
            obtain ⟨hc1, hc2⟩ := HCm
            have T1 := T1.drew
            have HC1 := Hush.mk hc1
            have HC2 := Hush.mk hc2
            clear hc1 hc2
            obtain ⟨I7, HI7, HZ0, HZ1, HZ2⟩ := info_parts edit_Parse.info111
            go_region_law (first | (refine step_append_lies _ rfl _ _ 24 rfl w.heap.size 111 I7 _ 2 16 Tryd.underlying24 HI7 HZ0 HZ1 HZ2 rfl (by decide) v4 lg.length (lg.flatMap edit_cells111) rfl (T3.alloc (.cells #[.int .i64 a.f0, .int .u64 a.f1] 111)).o4 ⟨W23.heap.size, 0, none⟩ 1 1 (edit_cells111 a) rfl rfl (cells_new W23 (edit_cells111 a) 111) (by intro u hu; simp [edit_cells111] at hu; rcases hu with rfl | rfl <;> rfl) (by decide) (by have := LX.out; unfold maxLen; omega) (by have := LX.out; omega) (T3.alloc (.cells #[.int .i64 a.f0, .int .u64 a.f1] 111)).bel.size _ rfl ?_; intro g' cap' w1 hown1 hgrow _ _; have TP := (T3.alloc (.cells #[.int .i64 a.f0, .int .u64 a.f1] 111)).push4 hown1 hgrow; have y4 := (blk_cell TP.h5 4).trans rfl; have x4 := blk_frozen TP.h5 4; have TQ := Hush.mk (TP.set5 4 (.slice (some ⟨g', 0, none⟩) (lg.length + 1) cap')); clear TP hown1 hgrow) | (go_simp; go_at_call 59; refine (edit_levelOf.calls g s p 0 a.f0 t1 q1 f1 w _ T1.rd T1.bel HC1.out).mono ?_; rintro e_ W22 ⟨rfl, hi, hb, hk⟩; have T2 : edit_Parse.St w g w.heap.size b5 t1 q1 f1 _ v3 l v4 lg W22 := T1.call hi hb hk; have y2 : W22.cell? ⟨b5, 4, none⟩ = some v4 := blk_cell T2.h5 4; clear hi hb hk) | (go_simp; go_at_call 56; refine (varint_Reader_Num.calls g t1 q1 f1 a.f1 t2 q2 f2 w _ T2.rd T2.bel HC2.out).mono ?_; rintro e_ W23 ⟨rfl, hi, hb, hk⟩; have T3 : edit_Parse.St w g w.heap.size b5 t2 q2 f2 _ v3 l v4 lg W23 := T2.call hi hb hk; have y3 : W23.cell? ⟨b5, 4, none⟩ = some v4 := blk_cell T3.h5 4; have y3a : (W23.alloc (.cells #[.int .i64 a.f0, .int .u64 a.f1] 111)).cell? ⟨b5, 4, none⟩ = some v4 := blk_cell (T3.alloc (.cells #[.int .i64 a.f0, .int .u64 a.f1] 111)).h5 4; clear hi hb hk))
            all_goals
              go_wp2
              go_roundw
              case rel => exact ⟨iv + 1, by go_num, m, t2, q2, f2, _, lg ++ [a], by omega, by omega, TQ.out, HN.out⟩
              case measure => simp [intOf]; omega
          · have hst := edit_Parse.gones_stop HC.out (by omega)
            simp only [Prod.mk.injEq] at hst
            obtain ⟨rfl, rfl, rfl, rfl⟩ := hst
            clear HC
            by_cases hlt2 : iv < n6
            · have he : (e == 0) = false := by simpa using (fun h => hgo ⟨hlt2, h⟩ : ¬ e = 0)
              clear hgo
              go_wp2_with fail
              refine (varint_Reader_Err.calls g s p e e s p e w wr hT.rd hT.bel rfl).mono ?_
              rintro e_ W21 ⟨rfl, hi, hb, hk⟩
              have T1 := hT.call hi hb hk
              clear hT hi hb hk
              go_wp2_with fail
              refine (varint_Reader_End.calls g _ _ _ _ _ _ _ w _ T1.rd T1.bel A.a8).mono ?_
              rintro e_ W30 ⟨rfl, hi, hb, hk⟩
              have U := T1.call hi hb hk
              have HA := Hush.mk A.hr
              clear T1 hi hb hk
              have R3 := R_of_own (d := k107) edit_cells107 (fun _ => rfl) (fun ok x => k107_mkM _ _ ok x) U.o3
              have R4 := R_of_own (d := k111) edit_cells111 (fun _ => rfl) (fun ok x => k111_mkM _ _ ok x) U.o4
              obtain ⟨A3, c3, rfl, _, hC3⟩ := Kd.R_reads R3
              obtain ⟨A4, c4, rfl, _, hC4⟩ := Kd.R_reads R4
              have C3 := Hush.mk hC3
              have C4 := Hush.mk hC4
              have R3 := Hush.mk R3
              have R4 := Hush.mk R4
              have x0 : W30.cell? ⟨b5, 0, none⟩ = some (.int .u64 n1) := blk_cell U.h5 0
              have x1 : W30.cell? ⟨b5, 1, none⟩ = some (.int .u64 n2) := blk_cell U.h5 1
              have x2 : W30.cell? ⟨b5, 2, none⟩ = some (.int .u64 n3) := blk_cell U.h5 2
              have x3 : W30.cell? ⟨b5, 3, none⟩ = some (.slice A3 l.length c3) := blk_cell U.h5 3
              have x4 : W30.cell? ⟨b5, 4, none⟩ = some (.slice A4 lg.length c4) := blk_cell U.h5 4
              clear hC3 hC4
              by_cases hz : z = 0
              · have hz1 : (z == 0) = true := by simpa using hz
                have HZ := Hush.mk hz
                clear hz
                go_wp2_with fail
                refine (edit_Edit_Check.walk n1 n2 n3 A3 c3 l A4 c4 lg W30 C3.out C4.out).mono ?_
                rintro e_ W31 ⟨rfl, hb31⟩
                have h2' := (hb31.block _ (heap_lt U.h2)).trans U.h2
                have h5' := (hb31.block _ (heap_lt U.h5)).trans U.h5
                have o3' := Hush.mk (own_move U.o3 (fun k hk => by obtain ⟨cs, hc⟩ := own_type U.o3 hk; exact hb31.block _ (heap_lt hc)))
                have o4' := Hush.mk (own_move U.o4 (fun k hk => by obtain ⟨cs, hc⟩ := own_type U.o4 hk; exact hb31.block _ (heap_lt hc)))
                have bel' := Hush.mk (U.bel.trans (hb31.mono U.bel.size))
                have x0 : W31.cell? ⟨b5, 0, none⟩ = some (.int .u64 n1) := blk_cell h5' 0
                have x1 : W31.cell? ⟨b5, 1, none⟩ = some (.int .u64 n2) := blk_cell h5' 1
                have x2 : W31.cell? ⟨b5, 2, none⟩ = some (.int .u64 n3) := blk_cell h5' 2
                have x3 : W31.cell? ⟨b5, 3, none⟩ = some (.slice A3 l.length c3) := blk_cell h5' 3
                have x4 : W31.cell? ⟨b5, 4, none⟩ = some (.slice A4 lg.length c4) := blk_cell h5' 4
                have d0 : W31.cell? ⟨w.heap.size, 0, none⟩ = some (.int .u64 0) := blk_cell h2' 0
                have f0 := blk_frozen h2' 0
                have d1 : W31.cell? ⟨w.heap.size, 1, none⟩ = some (.int .u64 0) := blk_cell h2' 1
                have f1 := blk_frozen h2' 1
                have d2 : W31.cell? ⟨w.heap.size, 2, none⟩ = some (.int .u64 0) := blk_cell h2' 2
                have f2 := blk_frozen h2' 2
                have d3 : W31.cell? ⟨w.heap.size, 3, none⟩ = some (.slice none 0 0) := blk_cell h2' 3
                have f3 := blk_frozen h2' 3
                have d4 : W31.cell? ⟨w.heap.size, 4, none⟩ = some (.slice none 0 0) := blk_cell h2' 4
                have f4 := blk_frozen h2' 4
                have H2 := Hush.mk h2'
                clear h2' h5' hb31 U
                obtain ⟨cv, hcv⟩ : ∃ c, c = edit_Edit_Check.val l lg := ⟨_, rfl⟩
                rw [← hcv]
                have HV := Hush.mk hcv
                clear hcv
                by_cases hv : cv = 0
                · have hv1 : (cv == 0) = true := by simpa using hv
                  have hv2 : (cv != 0) = false := by simpa using hv
                  have HR : Hush (R = (n1, n2, n3, l, lg, 0)) := ⟨by rw [← HA.out, edit_Parse.fin, if_pos HZ.out, ← HV.out, if_pos hv]⟩
                  clear hv
                  go_wp2
                  obtain rfl := HR.out
                  exact bodyPost_ret (v := .tuple #[.agg #[.int .u64 n1, .int .u64 n2, .int .u64 n3, .slice A3 l.length c3, .slice A4 lg.length c4], .int .i64 0]) (by simp [results, Tryd.results18, go_sem, d0, d1, d2, d3, d4]) rfl
                    ⟨_, _, rfl, R_of_own (d := k107) edit_cells107 (fun _ => rfl) (fun ok x => k107_mkM _ _ ok x) (own_set5 _ _ _ _ _ o3'.out ⟨_, H2.out⟩ (by decide)), R_of_own (d := k111) edit_cells111 (fun _ => rfl) (fun ok x => k111_mkM _ _ ok x) (own_set5 _ _ _ _ _ o4'.out ⟨_, H2.out⟩ (by decide)), below_set5 _ _ _ _ _ bel'.out (Nat.le_refl _)⟩
                · have hv1 : (cv == 0) = false := by simpa using hv
                  have hv2 : (cv != 0) = true := by simpa using hv
                  have HR : Hush (R = (0, 0, 0, [], [], cv)) := ⟨by rw [← HA.out, edit_Parse.fin, if_pos HZ.out, ← HV.out, if_neg hv]⟩
                  clear hv
                  go_wp2
                  obtain rfl := HR.out
                  exact bodyPost_ret (v := .tuple #[.agg #[.int .u64 0, .int .u64 0, .int .u64 0, .slice none 0 0, .slice none 0 0], .int .i64 cv]) (by simp [results, Tryd.results18, go_sem, d0, d1, d2, d3, d4]) rfl ⟨_, _, rfl, Kd.R_nil _ _ _ _ _, Kd.R_nil _ _ _ _ _, below_set5 _ _ _ _ _ bel'.out (Nat.le_refl _)⟩
              · have hz1 : (z == 0) = false := by simpa using hz
                have hz2 : (z != 0) = true := by simpa using hz
                have HR : Hush (R = (0, 0, 0, [], [], z)) := ⟨by rw [← HA.out, edit_Parse.fin, if_neg hz]⟩
                clear hz
                have d0 : W30.cell? ⟨w.heap.size, 0, none⟩ = some (.int .u64 0) := blk_cell U.h2 0
                have f0 := blk_frozen U.h2 0
                have d1 : W30.cell? ⟨w.heap.size, 1, none⟩ = some (.int .u64 0) := blk_cell U.h2 1
                have f1 := blk_frozen U.h2 1
                have d2 : W30.cell? ⟨w.heap.size, 2, none⟩ = some (.int .u64 0) := blk_cell U.h2 2
                have f2 := blk_frozen U.h2 2
                have d3 : W30.cell? ⟨w.heap.size, 3, none⟩ = some (.slice none 0 0) := blk_cell U.h2 3
                have f3 := blk_frozen U.h2 3
                have d4 : W30.cell? ⟨w.heap.size, 4, none⟩ = some (.slice none 0 0) := blk_cell U.h2 4
                have f4 := blk_frozen U.h2 4
                have HU := Hush.mk U
                clear U
                go_wp2
                obtain rfl := HR.out
                exact bodyPost_ret (v := .tuple #[.agg #[.int .u64 0, .int .u64 0, .int .u64 0, .slice none 0 0, .slice none 0 0], .int .i64 z]) (by simp [results, Tryd.results18, go_sem, d0, d1, d2, d3, d4]) rfl ⟨_, _, rfl, Kd.R_nil _ _ _ _ _, Kd.R_nil _ _ _ _ _, below_set5 _ _ _ _ _ HU.out.bel (Nat.le_refl _)⟩
            · clear hgo
              go_wp2_with fail
              refine (varint_Reader_End.calls g _ _ _ _ _ _ _ w _ hT.rd hT.bel A.a8).mono ?_
              rintro e_ W30 ⟨rfl, hi, hb, hk⟩
              have U := hT.call hi hb hk
              have HA := Hush.mk A.hr
              clear hT hi hb hk
              have R3 := R_of_own (d := k107) edit_cells107 (fun _ => rfl) (fun ok x => k107_mkM _ _ ok x) U.o3
              have R4 := R_of_own (d := k111) edit_cells111 (fun _ => rfl) (fun ok x => k111_mkM _ _ ok x) U.o4
              obtain ⟨A3, c3, rfl, _, hC3⟩ := Kd.R_reads R3
              obtain ⟨A4, c4, rfl, _, hC4⟩ := Kd.R_reads R4
              have C3 := Hush.mk hC3
              have C4 := Hush.mk hC4
              have R3 := Hush.mk R3
              have R4 := Hush.mk R4
              have x0 : W30.cell? ⟨b5, 0, none⟩ = some (.int .u64 n1) := blk_cell U.h5 0
              have x1 : W30.cell? ⟨b5, 1, none⟩ = some (.int .u64 n2) := blk_cell U.h5 1
              have x2 : W30.cell? ⟨b5, 2, none⟩ = some (.int .u64 n3) := blk_cell U.h5 2
              have x3 : W30.cell? ⟨b5, 3, none⟩ = some (.slice A3 l.length c3) := blk_cell U.h5 3
              have x4 : W30.cell? ⟨b5, 4, none⟩ = some (.slice A4 lg.length c4) := blk_cell U.h5 4
              clear hC3 hC4
              by_cases hz : z = 0
              · have hz1 : (z == 0) = true := by simpa using hz
                have HZ := Hush.mk hz
                clear hz
                go_wp2_with fail
                refine (edit_Edit_Check.walk n1 n2 n3 A3 c3 l A4 c4 lg W30 C3.out C4.out).mono ?_
                rintro e_ W31 ⟨rfl, hb31⟩
                have h2' := (hb31.block _ (heap_lt U.h2)).trans U.h2
                have h5' := (hb31.block _ (heap_lt U.h5)).trans U.h5
                have o3' := Hush.mk (own_move U.o3 (fun k hk => by obtain ⟨cs, hc⟩ := own_type U.o3 hk; exact hb31.block _ (heap_lt hc)))
                have o4' := Hush.mk (own_move U.o4 (fun k hk => by obtain ⟨cs, hc⟩ := own_type U.o4 hk; exact hb31.block _ (heap_lt hc)))
                have bel' := Hush.mk (U.bel.trans (hb31.mono U.bel.size))
                have x0 : W31.cell? ⟨b5, 0, none⟩ = some (.int .u64 n1) := blk_cell h5' 0
                have x1 : W31.cell? ⟨b5, 1, none⟩ = some (.int .u64 n2) := blk_cell h5' 1
                have x2 : W31.cell? ⟨b5, 2, none⟩ = some (.int .u64 n3) := blk_cell h5' 2
                have x3 : W31.cell? ⟨b5, 3, none⟩ = some (.slice A3 l.length c3) := blk_cell h5' 3
                have x4 : W31.cell? ⟨b5, 4, none⟩ = some (.slice A4 lg.length c4) := blk_cell h5' 4
                have d0 : W31.cell? ⟨w.heap.size, 0, none⟩ = some (.int .u64 0) := blk_cell h2' 0
                have f0 := blk_frozen h2' 0
                have d1 : W31.cell? ⟨w.heap.size, 1, none⟩ = some (.int .u64 0) := blk_cell h2' 1
                have f1 := blk_frozen h2' 1
                have d2 : W31.cell? ⟨w.heap.size, 2, none⟩ = some (.int .u64 0) := blk_cell h2' 2
                have f2 := blk_frozen h2' 2
                have d3 : W31.cell? ⟨w.heap.size, 3, none⟩ = some (.slice none 0 0) := blk_cell h2' 3
                have f3 := blk_frozen h2' 3
                have d4 : W31.cell? ⟨w.heap.size, 4, none⟩ = some (.slice none 0 0) := blk_cell h2' 4
                have f4 := blk_frozen h2' 4
                have H2 := Hush.mk h2'
                clear h2' h5' hb31 U
                obtain ⟨cv, hcv⟩ : ∃ c, c = edit_Edit_Check.val l lg := ⟨_, rfl⟩
                rw [← hcv]
                have HV := Hush.mk hcv
                clear hcv
                by_cases hv : cv = 0
                · have hv1 : (cv == 0) = true := by simpa using hv
                  have hv2 : (cv != 0) = false := by simpa using hv
                  have HR : Hush (R = (n1, n2, n3, l, lg, 0)) := ⟨by rw [← HA.out, edit_Parse.fin, if_pos HZ.out, ← HV.out, if_pos hv]⟩
                  clear hv
                  go_wp2
                  obtain rfl := HR.out
                  exact bodyPost_ret (v := .tuple #[.agg #[.int .u64 n1, .int .u64 n2, .int .u64 n3, .slice A3 l.length c3, .slice A4 lg.length c4], .int .i64 0]) (by simp [results, Tryd.results18, go_sem, d0, d1, d2, d3, d4]) rfl
                    ⟨_, _, rfl, R_of_own (d := k107) edit_cells107 (fun _ => rfl) (fun ok x => k107_mkM _ _ ok x) (own_set5 _ _ _ _ _ o3'.out ⟨_, H2.out⟩ (by decide)), R_of_own (d := k111) edit_cells111 (fun _ => rfl) (fun ok x => k111_mkM _ _ ok x) (own_set5 _ _ _ _ _ o4'.out ⟨_, H2.out⟩ (by decide)), below_set5 _ _ _ _ _ bel'.out (Nat.le_refl _)⟩
                · have hv1 : (cv == 0) = false := by simpa using hv
                  have hv2 : (cv != 0) = true := by simpa using hv
                  have HR : Hush (R = (0, 0, 0, [], [], cv)) := ⟨by rw [← HA.out, edit_Parse.fin, if_pos HZ.out, ← HV.out, if_neg hv]⟩
                  clear hv
                  go_wp2
                  obtain rfl := HR.out
                  exact bodyPost_ret (v := .tuple #[.agg #[.int .u64 0, .int .u64 0, .int .u64 0, .slice none 0 0, .slice none 0 0], .int .i64 cv]) (by simp [results, Tryd.results18, go_sem, d0, d1, d2, d3, d4]) rfl ⟨_, _, rfl, Kd.R_nil _ _ _ _ _, Kd.R_nil _ _ _ _ _, below_set5 _ _ _ _ _ bel'.out (Nat.le_refl _)⟩
              · have hz1 : (z == 0) = false := by simpa using hz
                have hz2 : (z != 0) = true := by simpa using hz
                have HR : Hush (R = (0, 0, 0, [], [], z)) := ⟨by rw [← HA.out, edit_Parse.fin, if_neg hz]⟩
                clear hz
                have d0 : W30.cell? ⟨w.heap.size, 0, none⟩ = some (.int .u64 0) := blk_cell U.h2 0
                have f0 := blk_frozen U.h2 0
                have d1 : W30.cell? ⟨w.heap.size, 1, none⟩ = some (.int .u64 0) := blk_cell U.h2 1
                have f1 := blk_frozen U.h2 1
                have d2 : W30.cell? ⟨w.heap.size, 2, none⟩ = some (.int .u64 0) := blk_cell U.h2 2
                have f2 := blk_frozen U.h2 2
                have d3 : W30.cell? ⟨w.heap.size, 3, none⟩ = some (.slice none 0 0) := blk_cell U.h2 3
                have f3 := blk_frozen U.h2 3
                have d4 : W30.cell? ⟨w.heap.size, 4, none⟩ = some (.slice none 0 0) := blk_cell U.h2 4
                have f4 := blk_frozen U.h2 4
                have HU := Hush.mk U
                clear U
                go_wp2
                obtain rfl := HR.out
                exact bodyPost_ret (v := .tuple #[.agg #[.int .u64 0, .int .u64 0, .int .u64 0, .slice none 0 0, .slice none 0 0], .int .i64 z]) (by simp [results, Tryd.results18, go_sem, d0, d1, d2, d3, d4]) rfl ⟨_, _, rfl, Kd.R_nil _ _ _ _ _, Kd.R_nil _ _ _ _ _, below_set5 _ _ _ _ _ HU.out.bel (Nat.le_refl _)⟩
theorem edit_Parse.calls (a0 : ByteArray) (r1 : Int) (r2 : Int) (r3 : Int) (r4 : List (S107)) (r5 : List (S111)) (r6 : Int) (w : World) (h : edit_Parse.f a0 = some (r1, r2, r3, r4, r5, r6)) :
    Calls Tryd.prog 18 #[.string a0] w fun e w' => ∃ v3_ v4_ : Value, e = .returned (.tuple #[.agg #[.int .u64 r1, .int .u64 r2, .int .u64 r3, v3_, v4_], .int .i64 r6]) ∧ Kd.R k107 107 w' w.heap.size (fun _ => True) v3_ r4 ∧ Kd.R k111 111 w' w.heap.size (fun _ => True) v4_ r5 ∧ Below w.heap.size w w' := edit_Parse.walk a0 _ w h
end Go.Proofs.YteilnbnnhocciaaDoor.K

/-! K24 -/
namespace Go.Proofs.YteilnbnnhocciaaDoor.K
open Go.RowKit Go.Proofs.YteilnbnnhocciaaDoorW.PrintWords Go.Proofs.YteilnbnnhocciaaDoorW.PrintLast Go.Proofs.YteilnbnnhocciaaDoorW.PrintMore Go.Proofs.YteilnbnnhocciaaDoorM
attribute [local go_sem] max2_int min2_int max_two min_two max_three min_three max_four min_four
set_option linter.unusedVariables false
set_option linter.unusedSimpArgs false
theorem bourselaw12_awake.bytes : edit_Edit_Bytes.f 20 0 0 0 [] [] = some (⟨#[0, 0, 0, 0, 0]⟩, 0) := by decide +kernel
theorem bourselaw12_awake.parse : edit_Parse.f ⟨#[0, 0, 0, 0, 0]⟩ = some (0, 0, 0, [], [], 0) := by kernel_rfl
set_option maxHeartbeats 2000000 in
set_option maxRecDepth 100000 in
theorem bourselaw12_awake.walk (w : World) : Calls Tryd.prog 13 #[] w fun e w' => e = .returned (.bool true) ∧ Below w.heap.size w w' := by
  have H1 := Hush.mk bourselaw12_awake.bytes
  have H2 := Hush.mk bourselaw12_awake.parse
  go_enter Tryd.func13, Tryd.ntmps13
  go_wp2_with fail
  refine (edit_Edit_Bytes.calls 20 0 0 0 none 0 [] none 0 [] _ _ _ (Kd.C_nil _ _) (Nat.le_refl _) (Kd.C_nil _ _) (Nat.le_refl _) H1.out).mono ?_
  rintro e w1 ⟨rfl, hb1⟩
  go_wp2_with fail
  refine (edit_Parse.calls _ _ _ _ _ _ _ _ H2.out).mono ?_
  rintro e w2 ⟨v3, v4, rfl, hR3, hR4, hb2⟩
  obtain ⟨A3, c3, rfl⟩ := Kd.R_slice hR3
  obtain ⟨A4, c4, rfl⟩ := Kd.R_slice hR4
  clear hR3 hR4
  have hb : Below w.heap.size w w2 := hb1.trans (hb2.mono hb1.size)
  go_wp2_with fail
  refine (name_t7 _).mono ?_
  rintro e w3 ⟨rfl, rfl⟩
  go_wp2
  go_ret
  exact ⟨rfl, hb.alloc hb.size _⟩
end Go.Proofs.YteilnbnnhocciaaDoor.K

/-! N5 -/
set_option linter.unusedVariables false
namespace Go.Proofs.YteilnbnnhocciaaDoor.N
open Go.RowKit Go.Lib Go.Sort Go.Proofs.YteilnbnnhocciaaDoorM Go.Proofs.YteilnbnnhocciaaDoor.KN Go.Proofs.YteilnbnnhocciaaDoor.K
set_option maxHeartbeats 1000000 in
set_option maxRecDepth 100000 in
theorem editNames_walk (kind name : ByteArray) (n : Nat) (hn : n < 18446744073709551616) (w : World) (hr : Reads w) :
    Calls Tryd.prog 9 #[.string kind, .string name, .int .u64 n] w fun e w' => e = .returned (.bool true) ∧ Below w.heap.size w w' := by
  have HR := Hush.mk hr
  have HN := Hush.mk hn
  clear hr hn
  by_cases hk : 100 < kind.size
  · go_enter Tryd.func9, Tryd.ntmps9
    go_wp2_with fail
    refine (bourselaw12_awake.walk _).mono ?_
    rintro e w1 ⟨rfl, hb⟩
    have HB := Hush.mk hb
    clear hb
    go_wp2
    go_ret
    exact ⟨rfl, HB.out⟩
  · by_cases hm : 100 < name.size
    · go_enter Tryd.func9, Tryd.ntmps9
      go_wp2_with fail
      refine (bourselaw12_awake.walk _).mono ?_
      rintro e w1 ⟨rfl, hb⟩
      have HB := Hush.mk hb
      clear hb
      go_wp2
      go_ret
      exact ⟨rfl, HB.out⟩
    · have HK1 : Hush (kind.size ≤ 1000) := ⟨by omega⟩
      have HK2 : Hush (kind.size ≤ 1000000) := ⟨by omega⟩
      have HM : Hush (name.size ≤ 100000) := ⟨by omega⟩
      have HL : Hush ((nameOf kind n).size ≤ 100000) := ⟨by
        have := digits_le HN.out
        have h1 : (nameOf kind n).size = kind.size + 1 + (digits n).size := by
          unfold nameOf
          rw [ByteArray.size_append, ByteArray.size_append]
          rfl
        omega⟩
      obtain ⟨r, b, hf, hres⟩ := refnumber (name.size + 30) kind name HK1.out HM.out (Nat.le_refl _)
      have HF := Hush.mk hf
      have HS := Hush.mk hres
      have HG := Hush.mk (refname_f 30 (by decide) kind HK2.out n HN.out)
      clear hf hres
      go_enter Tryd.func9, Tryd.ntmps9
      go_wp2_with fail
      refine (bourselaw12_awake.walk _).mono ?_
      rintro e w1 ⟨rfl, hb⟩
      have HB := Hush.mk hb
      have HR1 := Hush.mk (HR.out.below hb)
      clear hb
      go_wp2_with fail
      refine (number_any kind name HK1.out HM.out _ HR1.out).mono ?_
      rintro e w2 ⟨r2, b2, rfl, hres, hb⟩
      obtain ⟨rfl, rfl⟩ := hres.uniq HS.out
      have HB2 := Hush.mk (HB.out.trans (hb.mono HB.out.size))
      have HR2 := Hush.mk (HR1.out.below hb)
      clear hb hres
      go_wp2_with fail
      refine (bourseref12_Number.calls _ kind name r2 b2 _ HF.out).mono ?_
      rintro e w3 ⟨rfl, hb⟩
      have HB3 := Hush.mk (HB2.out.trans (hb.mono HB2.out.size))
      have HR3 := Hush.mk (HR2.out.below hb)
      clear hb
      go_wp2_with fail
      refine (name_any kind HK2.out n HN.out _ HR3.out.tab).mono ?_
      rintro e w4 ⟨rfl, hb⟩
      have HB4 := Hush.mk (HB3.out.trans (hb.mono HB3.out.size))
      have HR4 := Hush.mk (HR3.out.below hb)
      clear hb
      go_wp2_with fail
      refine (number_any kind (nameOf kind n) HK1.out HL.out _ HR4.out).mono ?_
      rintro e w5 ⟨r5, b5, rfl, hres, hb⟩
      obtain ⟨rfl, rfl⟩ := hres.uniq (NumRes.self kind HN.out)
      have HB5 := Hush.mk (HB4.out.trans (hb.mono HB4.out.size))
      have HR5 := Hush.mk (HR4.out.below hb)
      clear hb hres
      go_wp2_with fail
      refine (name_any kind HK2.out n HN.out _ HR5.out.tab).mono ?_
      rintro e w6 ⟨rfl, hb⟩
      have HB6 := Hush.mk (HB5.out.trans (hb.mono HB5.out.size))
      clear hb
      go_wp2_with fail
      refine (bourseref12_Name.calls 30 kind n (nameOf kind n) _ HG.out).mono ?_
      rintro e w7 ⟨rfl, hb⟩
      have HB7 := Hush.mk (HB6.out.trans (hb.mono HB6.out.size))
      clear hb
      go_wp2
      go_ret
      exact ⟨rfl, HB7.out⟩
end Go.Proofs.YteilnbnnhocciaaDoor.N

/-! R9 -/
set_option linter.unusedVariables false
namespace Go.Proofs.YteilnbnnhocciaaDoor.R9
open Go.ChangeShapes Go.WideShapes Go.ChangeAt Go.RowKit Go.Lib Go.Shelf
open Go.ChangeMaps (open_string shut_string)
open Go.Proofs.YteilnbnnhocciaaDoor.N
theorem own : ownKnob Tryd.prog.godebug = none := by kernel_rfl
theorem star : "*" ++ "errors.errorString" = "*errors.errorString" := by decide
theorem row244 (u : TypeId) (h : Tryd.prog.typeName? 3 u = some "*errors.errorString") : u = 244 :=
  typeName_ptr_named (nm := "errors.errorString") (by rw [star]; kernel_rfl) (by kernel_rfl) (by decide) u (by rw [star]; exact h)
theorem gS : Tryd.prog.globalNamed "strconv.ErrSyntax" = some 0 := by kernel_rfl
theorem gSType : (Tryd.prog.globals[0]?).map (·.type) = some 142 := by kernel_rfl
theorem gR : Tryd.prog.globalNamed "strconv.ErrRange" = some 1 := by kernel_rfl
theorem gRType : (Tryd.prog.globals[1]?).map (·.type) = some 142 := by kernel_rfl
theorem cells246 : Tryd.prog.cellsOf 246 = 1 := by kernel_rfl
theorem cells9 : Tryd.prog.cellsOf 9 = 1 := by kernel_rfl
theorem gP : Tryd.prog.globalNamed "internal/strconv.uint64pow10" = some 2 := by kernel_rfl
theorem gPType : (Tryd.prog.globals[2]?).map (·.type) = some 235 := by kernel_rfl
theorem cells22 : Tryd.prog.cellsOf 22 = 1 := by kernel_rfl
theorem cells235 : Tryd.prog.cellsOf 235 = 20 := by kernel_rfl
theorem tab_eq : (Rows.laid_internal_strconv_uint64pow10 : DataW Unit) = tabData .u64 pow10Tab := by kernel_rfl
theorem reads_of {w : World} (h : laidMet Tryd.prog Rows.editNamesRow.laid w) : Reads w := by
  have hL : laidMet Tryd.prog [("math/bits.deBruijn32tab", Rows.laid_math_bits_deBruijn32tab), ("math/bits.deBruijn64tab", Rows.laid_math_bits_deBruijn64tab), ("internal/strconv.uint64pow10", tabData .u64 pow10Tab), ("strconv.ErrRange", Rows.laid_strconv_ErrRange), ("strconv.ErrSyntax", Rows.laid_strconv_ErrSyntax)] w := by
    rw [← tab_eq]; exact h
  have h3 := hL.tail.tail
  have h4 := h3.tail
  have h5 := h4.tail
  obtain ⟨a1, s1, hv1, -, -, -⟩ := laid_sentinel h4 gR gRType Tryd.underlying142 row244 Tryd.underlying244 Tryd.underlying246 rfl rfl Tryd.underlying9 cells246 cells9
  obtain ⟨a0, s0, hv0, -, -, -⟩ := laid_sentinel h5 gS gSType Tryd.underlying142 row244 Tryd.underlying244 Tryd.underlying246 rfl rfl Tryd.underlying9 cells246 cells9
  exact ⟨tabIs_of_head gP gPType Tryd.underlying235 Tryd.underlying22 cells22 cells235 h3,
    ⟨_, by have h0 := World.var?_cell gS hv0 0; simpa using h0, .inr ⟨_, _, rfl⟩⟩, ⟨_, by have h0 := World.var?_cell gR hv1 0; simpa using h0, .inr ⟨_, _, rfl⟩⟩⟩
def cellsOfData : DataW Unit → Array Value
  | .agg l => (l.map fun
    | .lit (.int k n) => Value.int k n
    | _ => Value.bool false).toArray
  | _ => #[]
def textS : ByteArray := ⟨#[105, 110, 118, 97, 108, 105, 100, 32, 115, 121, 110, 116, 97, 120]⟩
def textR : ByteArray := ⟨#[118, 97, 108, 117, 101, 32, 111, 117, 116, 32, 111, 102, 32, 114, 97, 110, 103, 101]⟩
noncomputable def laidWorld (os : Os) : World :=
  let M := (World.settled Tryd.prog os).heap.size
  let w0 := World.holding Tryd.prog os ⟨#[.cells #[.string textS] 246, .cells #[.string textR] 246], #[], []⟩
  let put (h : Array Obj) (g : Nat) (cs : Array Value) : Array Obj := h.modify g fun
    | .cells _ t frozen => .cells cs t frozen
    | o => o
  { w0 with heap := put (put (put (put (put w0.heap 2 (cellsOfData Rows.laid_internal_strconv_uint64pow10)) 4 (cellsOfData Rows.laid_math_bits_deBruijn32tab)) 5 (cellsOfData Rows.laid_math_bits_deBruijn64tab)) 0 #[.iface 244 (.pointer (some ⟨M, 0, none⟩))]) 1 #[.iface 244 (.pointer (some ⟨M + 1, 0, none⟩))] }
noncomputable abbrev M0 : Nat := (World.settled Tryd.prog default).heap.size
theorem laid_met (os : Os) (args : Array Value) : laidMet Tryd.prog Rows.editNamesRow.laid ((laidWorld os).forCall (fun _ _ => 0) ⟨#[], args, []⟩).memory :=
  (LaidIn.of_run [0, 1, 2, 4, 5, M0, M0 + 1] 8 (by kernel_rfl) (by kernel_rfl) (by kernel_rfl) (by kernel_rfl)).met
set_option maxRecDepth 100000 in
theorem lifted (os : Os) (started : os.Started) (H : Type) (enc : TypeId × Value → H) :
    ReturnsInHanded {} Tryd.checked os 9 .any (fun w args => (Rows.editNamesSpec.pre enc Tryd.prog Tryd.f9 [] false w args ∧ laidMet Tryd.prog Rows.editNamesRow.laid w) ∧ sizedMet enc Tryd.prog Tryd.f9 (OpenSpec.ofChange Rows.editNamesSpec) false w args)
      (Rows.editNamesSpec.post enc Tryd.prog Tryd.f9 false true false false) := by
  refine returnsInHanded_of_change_and (C := Tryd.checked) (X := fun w _ => laidMet Tryd.prog Rows.editNamesRow.laid w) (fun _ _ _ hh h => h.of_heap hh) own started (by kernel_rfl) Tryd.func9
    (ChangeSpec.witness_at (enc := enc) (C := Tryd.checked) (os := os) (X := fun w _ => laidMet Tryd.prog Rows.editNamesRow.laid w) false (laidWorld os)
      #[.string ByteArray.empty, .string ByteArray.empty, .int .u64 0] 8
      rfl (by kernel_rfl) (by kernel_rfl) (by kernel_rfl) (by kernel_rfl) (by kernel_rfl) (laid_met os _)) ?_
  intro W base args ds gs before hval0 hW hcnd hsz0 hX _
  have hval : ∀ (j : Nat) t v, Tryd.f9.params[j]? = some t → args[j]? = some v → Value.okWide Tryd.prog W .any base t v := hval0
  have hW' := hW
  obtain ⟨p, q, hA0, hV, rfl, hfz, hnd⟩ := hW
  have hA : DataW.TrodAll enc Tryd.prog W 0 (fun _ => true) true Tryd.f9.params.toList args.toList ds p := hA0
  rw [Tryd.params9] at hA hval
  obtain ⟨v0, v1, v2, d0, d1, d2, p0, p1, p2, rfl, rfl, rfl, h0, h1, h2⟩ := trodAll_three hA
  obtain ⟨rfl, rfl⟩ := trodVars_none hV
  obtain ⟨s, rfl, rfl, rfl, hs⟩ := open_string Tryd.underlying9 (hval 0 9 v0 rfl rfl) h0
  obtain ⟨s', rfl, rfl, rfl, hs'⟩ := open_string Tryd.underlying9 (hval 1 9 v1 rfl rfl) h1
  obtain ⟨n, rfl, rfl, rfl, hn⟩ := open_int Tryd.underlying22 (hval 2 22 v2 rfl rfl) h2
  clear hA0 hval0 hsz0
  have hn' := hn
  simp [Lit.wf, IntKind.min, IntKind.max, IntKind.signed, IntKind.bits] at hn'
  obtain ⟨m, rfl⟩ := Int.eq_ofNat_of_zero_le (show 0 ≤ n by omega)
  refine (editNames_walk s s' m (by omega) W (reads_of hX)).mono ?_
  rintro r W' ⟨rfl, bel⟩
  exact ⟨_, rfl, _, _, _, [], _, [], hW', trodAll_mk1 (shut_bool Tryd.underlying4 _), (trodAll_cons_mk (shut_string Tryd.underlying9 hs) (trodAll_cons_mk (shut_string Tryd.underlying9 hs') (trodAll_cons_mk (shut_int Tryd.underlying22 hn) trodAll_mk0))), rfl, bel.frame _, fun h => by cases h⟩
theorem over : Rows.editNamesRow.holds Tryd.pinned (OpenSpec.ofChange Rows.editNamesSpec) :=
  OpenClaim.holds_of_wide 9 Tryd.f9 rfl rfl rfl rfl rfl rfl rfl ⟨rfl, rfl, rfl, rfl, rfl⟩ rfl rfl rfl rfl rfl (by kernel_rfl) Tryd.func9 (by kernel_rfl) (of_decide_eq_true (by kernel_rfl))
    (by unfold Func.isWrapper; first | (rw [if_pos (by decide +kernel)]; kernel_rfl) | (rw [if_neg (by decide +kernel)]; exact ⟨rfl, rfl⟩))
    (fun os started H enc _ => lifted os started H enc)
end Go.Proofs.YteilnbnnhocciaaDoor.R9
namespace Go.Proofs.YteilnbnnhocciaaDoor
theorem editNames_holds : Rows.EditNamesSaid := R9.over
end Go.Proofs.YteilnbnnhocciaaDoor

/-! C9 -/
namespace Go.Proofs.YteilnbnnhocciaaDoor
open Go
theorem editNamesCard_holds : Rows.EditNamesCardSaid :=
  Claim7.holds_tied_plain_at .later [] [.data, .data, .data, .sentinel, .sentinel] true (true, "bc9cca30e6bcb58c3d7b40caaba0da34bdf01bc2fab1082ae4b270bbcf37ee66") true
    editNames_holds (fun _ h => by cases h) (by kernel_rfl) (fun _ h => by cases h) editNames_row_tie rfl ⟨rfl, rfl⟩ (by kernel_rfl) rfl
    (fun f fn hf hfn => by
      obtain rfl : f = 9 := Option.some.inj ((show Tryd.prog.funcNamed "bourse/bourselaw12.EditNames" = some 9 by kernel_rfl).symm.trans hf) |>.symm
      obtain rfl : fn = Tryd.f9 := (Option.some.inj (Tryd.func9.symm.trans hfn)).symm
      exact ⟨by kernel_rfl, fun j t ht => by
        rw [Tryd.params9] at ht
        have h3 : t = 22 ∨ t = 9 := by
          rcases j with _ | _ | _ | j
          · exact .inr (by simpa using ht.symm)
          · exact .inr (by simpa using ht.symm)
          · exact .inl (by simpa using ht.symm)
          · simp at ht
        rcases h3 with rfl | rfl
        · exact (show Tryd.prog.wantsStandIn 22 = false by kernel_rfl)
        · exact (show Tryd.prog.wantsStandIn 9 = false by kernel_rfl)⟩)
    (by kernel_rfl)
end Go.Proofs.YteilnbnnhocciaaDoor
