/- DiskPlays: the disk and the document's disk do a script and are of one mind after each act (part 2 of 10; packed by program out of the texts named below) -/
import Derived.Test.YteilnbnnhocciaaXD1
import Derived.Test.YteilnbnnhocciaaProg
import Derived.Shelf.SlGeneric
import Derived.Shelf.GgClosure.StringsIndexFuncTop
import Derived.Shelf.SlIter.Nil
import Derived.Shelf.SortM.Plain
import Derived.Shelf.SortM.SortNone
import Derived.Ground.GgwProg
import Derived.Ground.GgzProg
import Derived.Ground.SlgmProg
import Derived.Maps.OwnSet
import Derived.Maps.Views
import Derived.Maps.Ext
import Derived.Sort.KeysCollected
import Derived.WalkKit
import Derived.WalkSpells
import Derived.Below
import Derived.RowKit
import Derived.RangeFuncBox
import Derived.StringKeys
import Derived.RegionTactic
import Derived.ChangeAlike
import Derived.BigRegion
import Derived.StillTailTactics
import Derived.Lib.RuneCount
import Derived.LoopTactic
import Derived.Deep.RegionHeld3
import Derived.Deep.QuietTactic
import Derived.BigQuiet
import Derived.IntWalk
import Derived.Laws.Concat
import Derived.Lib.ConvBytes
import Derived.Laws.BitsAllLaws
import Derived.Laws.OwnMore
import Derived.Deep.AppendLies

/-! D4 -/
namespace Go.Proofs
open Go.Shelf
def Try.l17_ren : Go.Shelf.Ren := ⟨fun | 17 => 47 | 15 => 56 | 20 => 60 | n => n, fun | 9 => 9 | 23 => 74 | 4 => 4 | 3 => 3 | 0 => 0 | 21 => 21 | n => n, fun | n => n⟩
theorem Try.l17 : Go.Proofs.LaysGw.n17 Try.prog Try.l17_ren := {
  mixed := by kernel_rfl
  f15 := Try.func56.trans (congrArg some (by kernel_rfl))
  f17 := Try.func47.trans (congrArg some (by kernel_rfl))
  f20 := Try.func60.trans (congrArg some (by kernel_rfl))
  t0 := Try.underlying0
  a0 := Try.isAgg0
  z0 := Try.sizeOf0
  v0 := Try.zeroValue0
  i0 := by kernel_rfl
  t3 := Try.underlying3
  a3 := Try.isAgg3
  z3 := Try.sizeOf3
  v3 := Try.zeroValue3
  i3 := by kernel_rfl
  t4 := Try.underlying4
  a4 := Try.isAgg4
  z4 := Try.sizeOf4
  v4 := Try.zeroValue4
  i4 := by kernel_rfl
  t9 := Try.underlying9
  a9 := Try.isAgg9
  z9 := Try.sizeOf9
  v9 := Try.zeroValue9
  i9 := by kernel_rfl
  t21 := Try.underlying21
  a21 := Try.isAgg21
  z21 := Try.sizeOf21
  v21 := Try.zeroValue21
  i21 := by kernel_rfl
  t23 := Try.underlying74
  a23 := Try.isAgg74
  z23 := Try.sizeOf74
  v23 := Try.zeroValue74
  i23 := by kernel_rfl }
def Try.keys34_ren : Go.Shelf.Ren := ⟨fun | 7 => 34 | 10 => 51 | n => n, fun | 23 => 53 | 26 => 9 | 3 => 60 | 28 => 63 | 0 => 0 | 27 => 62 | 33 => 57 | 4 => 4 | n => n, fun | n => n⟩
theorem Try.keys34 : Go.Proofs.SlLaysZ.n7 Try.prog Try.keys34_ren := {
  mixed := by kernel_rfl
  f7 := ⟨Try.f34.name, by decide, Try.func34.trans (congrArg some (by kernel_rfl))⟩
  f10 := ⟨Try.f51.name, by decide, Try.func51.trans (congrArg some (by kernel_rfl))⟩
  t0 := Try.underlying0
  a0 := Try.isAgg0
  z0 := Try.sizeOf0
  v0 := Try.zeroValue0
  t4 := Try.underlying4
  a4 := Try.isAgg4
  z4 := Try.sizeOf4
  v4 := Try.zeroValue4
  t23 := Try.underlying53
  a23 := Try.isAgg53
  z23 := Try.sizeOf53
  v23 := Try.zeroValue53
  t26 := Try.underlying9
  a26 := Try.isAgg9
  z26 := Try.sizeOf9
  v26 := Try.zeroValue9
  t27 := Try.underlying62
  a27 := Try.isAgg62
  z27 := Try.sizeOf62
  v27 := Try.zeroValue62
  t28 := Try.underlying63
  a28 := Try.isAgg63
  z28 := Try.sizeOf63
  v28 := Try.zeroValue63
  t33 := Try.underlying57
  a33 := Try.isAgg57
  z33 := Try.sizeOf57
  v33 := Try.zeroValue57 }
def Try.sorted33_ren : Go.Shelf.Ren := ⟨fun | 6 => 33 | 8 => 49 | 9 => 50 | 11 => 57 | 13 => 59 | 12 => 58 | 23 => 70 | 24 => 71 | 14 => 61 | 15 => 62 | 16 => 63 | 17 => 64 | 18 => 65 | 19 => 66 | 20 => 67 | 21 => 68 | 22 => 69 | 25 => 72 | 26 => 73 | 27 => 74 | 28 => 75 | 29 => 76 | 30 => 77 | 31 => 78 | n => n, fun | 26 => 9 | 28 => 63 | 24 => 30 | 0 => 0 | 3 => 3 | 37 => 85 | 48 => 97 | 50 => 99 | 4 => 4 | 40 => 89 | 39 => 88 | 45 => 94 | 5 => 5 | 9 => 9 | 51 => 100 | 55 => 104 | 57 => 106 | 58 => 107 | 33 => 57 | n => n, fun | n => n⟩
theorem Try.sorted33 : Go.Proofs.SlLaysZ.n6 Try.prog Try.sorted33_ren := {
  mixed := by kernel_rfl
  f6 := ⟨Try.f33.name, by decide, Try.func33.trans (congrArg some (by kernel_rfl))⟩
  f8 := ⟨Try.f49.name, by decide, Try.func49.trans (congrArg some (by kernel_rfl))⟩
  f11 := ⟨Try.f57.name, by decide, Try.func57.trans (congrArg some (by kernel_rfl))⟩
  t0 := Try.underlying0
  a0 := Try.isAgg0
  z0 := Try.sizeOf0
  v0 := Try.zeroValue0
  t24 := Try.underlying30
  a24 := Try.isAgg30
  z24 := Try.sizeOf30
  v24 := Try.zeroValue30
  t26 := Try.underlying9
  a26 := Try.isAgg9
  z26 := Try.sizeOf9
  v26 := Try.zeroValue9
  t28 := Try.underlying63
  a28 := Try.isAgg63
  z28 := Try.sizeOf63
  v28 := Try.zeroValue63
  i26 := by kernel_rfl }
def Try.sort50_ren : Go.Shelf.Ren := ⟨fun | 6 => 50 | 8 => 59 | 9 => 58 | 19 => 70 | 20 => 71 | 21 => 61 | 22 => 62 | 23 => 63 | 24 => 64 | 25 => 65 | 26 => 66 | 27 => 67 | 28 => 68 | 29 => 69 | 36 => 72 | 31 => 73 | 32 => 74 | 37 => 75 | 38 => 76 | 39 => 77 | 41 => 78 | n => n, fun | 27 => 30 | 29 => 9 | 3 => 3 | 32 => 85 | 26 => 30 | 0 => 0 | 44 => 97 | 46 => 99 | 4 => 4 | 36 => 89 | 35 => 88 | 41 => 94 | 5 => 5 | 9 => 9 | 53 => 100 | 57 => 104 | 63 => 106 | 64 => 107 | n => n, fun | n => n⟩
theorem Try.sort50 : Go.Proofs.SlLaysM.n6 Try.prog Try.sort50_ren := {
  mixed := by kernel_rfl
  f6 := ⟨Try.f50.name, by decide, Try.func50.trans (congrArg some (by kernel_rfl))⟩
  f8 := Try.func59.trans (congrArg some (by kernel_rfl))
  f9 := ⟨Try.f58.name, by decide, Try.func58.trans (congrArg some (by kernel_rfl))⟩
  f19 := Try.func70.trans (congrArg some (by kernel_rfl))
  f20 := Try.func71.trans (congrArg some (by kernel_rfl))
  f21 := ⟨Try.f61.name, by decide, Try.func61.trans (congrArg some (by kernel_rfl))⟩
  f22 := ⟨Try.f62.name, by decide, Try.func62.trans (congrArg some (by kernel_rfl))⟩
  f23 := ⟨Try.f63.name, by decide, Try.func63.trans (congrArg some (by kernel_rfl))⟩
  f24 := ⟨Try.f64.name, by decide, Try.func64.trans (congrArg some (by kernel_rfl))⟩
  f25 := ⟨Try.f65.name, by decide, Try.func65.trans (congrArg some (by kernel_rfl))⟩
  f26 := ⟨Try.f66.name, by decide, Try.func66.trans (congrArg some (by kernel_rfl))⟩
  f27 := ⟨Try.f67.name, by decide, Try.func67.trans (congrArg some (by kernel_rfl))⟩
  f28 := ⟨Try.f68.name, by decide, Try.func68.trans (congrArg some (by kernel_rfl))⟩
  f29 := ⟨Try.f69.name, by decide, Try.func69.trans (congrArg some (by kernel_rfl))⟩
  f31 := Try.func73.trans (congrArg some (by kernel_rfl))
  f32 := Try.func74.trans (congrArg some (by kernel_rfl))
  f36 := ⟨Try.f72.name, by decide, Try.func72.trans (congrArg some (by kernel_rfl))⟩
  f37 := ⟨Try.f75.name, by decide, Try.func75.trans (congrArg some (by kernel_rfl))⟩
  f38 := ⟨Try.f76.name, by decide, Try.func76.trans (congrArg some (by kernel_rfl))⟩
  f39 := ⟨Try.f77.name, by decide, Try.func77.trans (congrArg some (by kernel_rfl))⟩
  f41 := ⟨Try.f78.name, by decide, Try.func78.trans (congrArg some (by kernel_rfl))⟩
  t0 := Try.underlying0
  a0 := Try.isAgg0
  z0 := Try.sizeOf0
  v0 := Try.zeroValue0
  t3 := Try.underlying3
  a3 := Try.isAgg3
  z3 := Try.sizeOf3
  v3 := Try.zeroValue3
  t4 := Try.underlying4
  a4 := Try.isAgg4
  z4 := Try.sizeOf4
  v4 := Try.zeroValue4
  t5 := Try.underlying5
  a5 := Try.isAgg5
  z5 := Try.sizeOf5
  v5 := Try.zeroValue5
  t9 := Try.underlying9
  a9 := Try.isAgg9
  z9 := Try.sizeOf9
  v9 := Try.zeroValue9
  t26 := Try.underlying30
  a26 := Try.isAgg30
  z26 := Try.sizeOf30
  v26 := Try.zeroValue30
  t27 := Try.underlying30
  a27 := Try.isAgg30
  z27 := Try.sizeOf30
  v27 := Try.zeroValue30
  t29 := Try.underlying9
  a29 := Try.isAgg9
  z29 := Try.sizeOf9
  v29 := Try.zeroValue9
  t32 := Try.underlying85
  a32 := Try.isAgg85
  z32 := Try.sizeOf85
  v32 := Try.zeroValue85
  t35 := Try.underlying88
  a35 := Try.isAgg88
  z35 := Try.sizeOf88
  v35 := Try.zeroValue88
  t36 := Try.underlying89
  a36 := Try.isAgg89
  z36 := Try.sizeOf89
  v36 := Try.zeroValue89
  t41 := Try.underlying94
  a41 := Try.isAgg94
  z41 := Try.sizeOf94
  v41 := Try.zeroValue94
  t44 := Try.underlying97
  a44 := Try.isAgg97
  z44 := Try.sizeOf97
  v44 := Try.zeroValue97
  t46 := Try.underlying99
  a46 := Try.isAgg99
  z46 := Try.sizeOf99
  v46 := Try.zeroValue99
  t53 := Try.underlying100
  a53 := Try.isAgg100
  z53 := Try.sizeOf100
  v53 := Try.zeroValue100
  t57 := Try.underlying104
  a57 := Try.isAgg104
  z57 := Try.sizeOf104
  v57 := Try.zeroValue104
  t63 := Try.underlying106
  a63 := Try.isAgg106
  z63 := Try.sizeOf106
  v63 := Try.zeroValue106
  t64 := Try.underlying107
  a64 := Try.isAgg107
  z64 := Try.sizeOf107
  v64 := Try.zeroValue107 }
end Go.Proofs

/-! D10 -/
set_option linter.unusedVariables false
namespace Go.Proofs
open Go.RowKit Go.Maps Go.Sort Go.Shelf
theorem Try.sorts33 (m : Nat) : AnyZ.SortsIn Try.prog Try.sorted33_ren Fence.wide m :=
  ⟨fun blk off cap ss W hH hblk hsz => callsIn_wide.2 (AnyM.slices_Sort_string Try.sort50 blk off cap ss W hH hblk hsz),
   fun p cap W => callsIn_wide.2 (AnyM.slices_Sort_string_none Try.sort50 p cap W)⟩
theorem Try.maps_Keys_34 (mb : Option Nat) (W : World) : CallsIn Fence.wide 5 Try.prog 34 #[.map mb] W fun e w' => e = .returned (.func (.func 51) #[] #[.pointer (some ⟨W.heap.size, 0, none⟩)]) ∧ w' = W.alloc (.cells #[.map mb] 53) :=
  AnyZ.keys_in Try.keys34 Fence.wide 5 trivial rfl mb W
set_option maxHeartbeats 1000000 in
theorem Try.slices_Sorted_keys_33_34 {H : Type} (b nn : Nat) (D0 : DataW H) (R : Value → Option (DataW H × List MemPlace)) (w : World) (hown : w.ownsMap Try.prog 9 R b nn D0) (hmax : Maps.size D0 ≤ maxLen) (hbytes : Maps.size D0 * 16 ≤ 140737488355328) :
    CallsIn Fence.wide 5 Try.prog 33 #[.func (.func 51) #[] #[.pointer (some ⟨w.heap.size, 0, none⟩)]] (w.alloc (.cells #[.map (some b)] 53)) fun e w' => ∃ (v : Value) (ss : List (List UInt8)), e = .returned v ∧ ss.Perm (strKeys D0) ∧
      w'.ownsRow (w.alloc (.cells #[.map (some b)] 53)).heap.size 9 1 v ss.length ((ss.mergeSort (fun x y => decide (x ≤ y))).map encStr) ∧ (v = .slice none 0 0 ↔ ss = []) ∧ Below (w.alloc (.cells #[.map (some b)] 53)).heap.size (w.alloc (.cells #[.map (some b)] 53)) w' := by
  have hbl := hown.lt
  have hseq : SeqGives Fence.wide 2 Try.prog 51 #[.pointer (some ⟨w.heap.size, 0, none⟩)] encStr (fun ss => ss.Perm (strKeys D0)) (Maps.size D0) (w.alloc (.cells #[.map (some b)] 53)) :=
    AnyZ.keys_gives (ρ := Try.keys34_ren) { Try.keys34 with } Fence.wide _ trivial rfl (by omega) w.heap.size b nn D0 _ (by simp) (by simp) (by
      obtain ⟨es, clock, hb, Ft, hs, hD⟩ := hown
      exact ⟨es, clock, (Below.heap_alloc _ _ b hbl).trans hb, Ft, hs, hD⟩)
  exact AnyZ.sorted_in Try.sorted33 Fence.wide 5 trivial trivial trivial trivial rfl (by omega) (Try.sorts33 _) (enters_of Try.func50 (by kernel_rfl) rfl) 51 #[.pointer (some ⟨w.heap.size, 0, none⟩)] trivial (enters_of Try.func51 (by kernel_rfl) rfl) _ _ hmax hbytes _ hseq
end Go.Proofs

/-! D0 -/
set_option linter.unusedVariables false
set_option linter.unusedSimpArgs false
namespace Go.Proofs.Yteilnbnnhocciaa.D
open Go.RowKit Go.Maps
structure Hush (p : Prop) : Prop where mk :: (out : p)
structure FileV where
  s : ByteArray
  sure : Int
def fileVal (f : FileV) : Value := .agg #[.string f.s, .int .i64 f.sure]
def fileDat (f : FileV) : DataW Unit := .agg [.lit (.string f.s.data.toList), .lit (.int .i64 f.sure)]
def noFile : FileV := ⟨⟨#[]⟩, 0⟩
def fileElem (v : Value) : Option (DataW Unit × List MemPlace) :=
  match v with
  | .agg cs => match cs.toList with
    | [.string s, .int .i64 n] => some (fileDat ⟨s, n⟩, [])
    | _ => none
  | _ => none
theorem fileElem_mk (f : FileV) : fileElem (fileVal f) = some (fileDat f, []) := rfl
theorem bytes_inj {s t : ByteArray} (h : s.data.toList = t.data.toList) : s = t := by
  cases s with | mk a => cases t with | mk b => congr 1; exact Array.toList_inj.1 h
theorem fileDat_inj {f g : FileV} (h : fileDat f = fileDat g) : f = g := by
  unfold fileDat at h
  injection h with h
  injection h with h1 h2
  injection h2 with h2 _
  injection h1 with h1
  injection h2 with h2
  injection h1 with h1
  injection h2 with _ h2
  cases f; cases g
  simp only [FileV.mk.injEq]
  exact ⟨bytes_inj h1, h2⟩
theorem fileElem_inv {v : Value} {z : DataW Unit × List MemPlace} (h : fileElem v = some z) : ∃ f, v = fileVal f ∧ z = (fileDat f, []) := by
  unfold fileElem at h
  split at h
  · rename_i arr
    split at h
    · rename_i s n hcs
      cases h
      exact ⟨⟨s, n⟩, by unfold fileVal; rw [show arr = (arr.toList).toArray from by simp, hcs], rfl⟩
    · cases h
  · cases h
def keyLit (n : ByteArray) : Lit := .string n.data.toList
theorem keyLit_inj {a b : ByteArray} (h : keyLit a = keyLit b) : a = b := by
  unfold keyLit at h
  injection h with h
  exact bytes_inj h
theorem law53 : Keyed Try.prog 9 := string_keyed Try.underlying9
structure Dk where
  files : List (ByteArray × FileV)
  room : Int
  steps : Int
  fuse : Int
  fault : Int
  down : Bool
def find (l : List (ByteArray × FileV)) (n : ByteArray) : Option FileV := (l.find? fun x => x.1 = n).map (·.2)
structure Rep (D : DataW Unit) (l : List (ByteArray × FileV)) : Prop where
  tidy : Tidy D
  nodup : (l.map (·.1)).Nodup
  size : Maps.size D = l.length
  has : ∀ n : ByteArray, Maps.has D (keyLit n) = (find l n).isSome
  at_ : ∀ (n : ByteArray) (f : FileV), find l n = some f → ∀ z, D.atKey (keyLit n) z = fileDat f
  only : ∀ k : Lit, Maps.has D k = true → ∃ n, k = keyLit n
def cells (m : Nat) (k : Dk) : Array Value := #[.map (some m), .int .i64 k.room, .int .i64 k.steps, .int .i64 k.fuse, .int .i64 k.fault, .bool k.down]
structure IsDisk (w : World) (p m : Nat) (k : Dk) : Prop where
  row : w.heap[p]? = some (.cells (cells m k) 55 (0, 0))
  map : ∃ (D : DataW Unit) (n : Nat), w.ownsMap Try.prog 9 fileElem m n D ∧ n ≤ k.files.length ∧ Rep D k.files
structure Touch (S : Nat → Prop) (w w' : World) : Prop where
  os : w'.os = w.os
  tape : w'.tape = w.tape
  output : w'.output = w.output
  size : w.heap.size ≤ w'.heap.size
  block : ∀ k, k < w.heap.size → ¬ S k → w'.heap[k]? = w.heap[k]?
theorem Touch.refl (S : Nat → Prop) (w : World) : Touch S w w := ⟨rfl, rfl, rfl, Nat.le_refl _, fun _ _ _ => rfl⟩
theorem Touch.trans {S : Nat → Prop} {a b c : World} (h : Touch S a b) (k : Touch S b c) : Touch S a c :=
  ⟨k.os.trans h.os, k.tape.trans h.tape, k.output.trans h.output, Nat.le_trans h.size k.size, fun i hi hs => (k.block i (Nat.lt_of_lt_of_le hi h.size) hs).trans (h.block i hi hs)⟩
theorem Touch.mono {S T : Nat → Prop} {a b : World} (h : Touch S a b) (hs : ∀ k, S k → T k) : Touch T a b := ⟨h.os, h.tape, h.output, h.size, fun i hi ht => h.block i hi (fun e => ht (hs i e))⟩
theorem Touch.of_below {S : Nat → Prop} {a b : World} (h : Below a.heap.size a b) : Touch S a b := ⟨h.os, h.tape, h.output, h.size, fun i hi _ => h.block i hi⟩
theorem Touch.of_grown {S : Nat → Prop} {a b : World} {r : Nat} (h : a.grownBy b (some r)) (hr : S r) : Touch S a b := ⟨h.os, h.tape, h.output, h.size, fun i hi hs => h.block i hi (fun e => hs (by cases e; exact hr))⟩
theorem Touch.below {S : Nat → Prop} {a b : World} (h : Touch S a b) {B : Nat} (hS : ∀ k, S k → B ≤ k) (hB : B ≤ a.heap.size) : Below B a b := ⟨h.os, h.tape, h.output, h.size, fun i hi => h.block i (by omega) (fun e => by have := hS i e; omega)⟩
theorem Touch.setCell {S : Nat → Prop} (w : World) (q : Addr) (u : Value) (h : S q.block) : Touch S w (w.setCell q u) := by
  have hz : (w.setCell q u).heap.size = w.heap.size := by simp
  exact ⟨rfl, rfl, rfl, by omega, fun i _ hs => Below.heap_setCell w q u i (fun e => hs (by rw [e]; exact h))⟩
theorem Touch.alloc {S : Nat → Prop} (w : World) (o : Obj) : Touch S w (w.alloc o) := Touch.of_below ((Below.refl _ w).alloc (Nat.le_refl _) o)
theorem find_cons (x : ByteArray × FileV) (l : List (ByteArray × FileV)) (n : ByteArray) : find (x :: l) n = if x.1 = n then some x.2 else find l n := by
  unfold find
  by_cases h : x.1 = n <;> simp [h]
theorem find_none {l : List (ByteArray × FileV)} {n : ByteArray} : find l n = none ↔ n ∉ l.map (·.1) := by
  induction l with
  | nil => simp [find]
  | cons x l ih =>
    rw [find_cons]
    by_cases h : x.1 = n
    · simp [h]
    · rw [if_neg h, ih]
      simp [Ne.symm h]
def upd (l : List (ByteArray × FileV)) (n : ByteArray) (f : FileV) : List (ByteArray × FileV) :=
  if (find l n).isSome then l.map fun x => if x.1 = n then (n, f) else x else l ++ [(n, f)]
def gone (l : List (ByteArray × FileV)) (n : ByteArray) : List (ByteArray × FileV) := l.filter fun x => x.1 ≠ n
theorem find_map (l : List (ByteArray × FileV)) (n : ByteArray) (f : FileV) (n' : ByteArray) : find (l.map fun x => if x.1 = n then (n, f) else x) n' = if n' = n then (if (find l n).isSome then some f else none) else find l n' := by
  induction l with
  | nil => simp [find]
  | cons x l ih =>
    rw [List.map_cons, find_cons, ih, find_cons, find_cons]
    by_cases h : x.1 = n
    · simp only [if_pos h]
      by_cases h' : n' = n
      · subst h'; simp
      · rw [if_neg (Ne.symm h'), if_neg h', if_neg h', h, if_neg (Ne.symm h')]
    · simp only [if_neg h]
      by_cases h' : n' = n
      · subst h'; simp [h]
      · rw [if_neg h', if_neg h']
theorem find_app (l : List (ByteArray × FileV)) (n : ByteArray) (f : FileV) (n' : ByteArray) : find (l ++ [(n, f)]) n' = if (find l n').isSome then find l n' else if n = n' then some f else none := by
  induction l with
  | nil =>
    rw [List.nil_append, find_cons]
    simp [find]
  | cons x l ih =>
    rw [List.cons_append, find_cons, ih, find_cons]
    by_cases h : x.1 = n'
    · simp [h]
    · simp [h]
theorem find_upd (l : List (ByteArray × FileV)) (n : ByteArray) (f : FileV) (n' : ByteArray) : find (upd l n f) n' = if n' = n then some f else find l n' := by
  unfold upd
  by_cases h : (find l n).isSome
  · rw [if_pos h, find_map]
    simp [h]
  · rw [if_neg h, find_app]
    by_cases h' : n' = n
    · subst h'; simp [h]
    · rw [if_neg h', if_neg (Ne.symm h')]
      cases find l n' <;> rfl
theorem find_gone (l : List (ByteArray × FileV)) (n n' : ByteArray) : find (gone l n) n' = if n' = n then none else find l n' := by
  induction l with
  | nil => simp [find, gone]
  | cons x l ih =>
    unfold gone at ih ⊢
    by_cases h : x.1 = n
    · rw [List.filter_cons_of_neg (by simpa using h), ih, find_cons]
      by_cases h' : n' = n
      · rw [if_pos h', if_pos h']
      · rw [if_neg h', if_neg h', h, if_neg (Ne.symm h')]
    · rw [List.filter_cons_of_pos (by simpa using h), find_cons, ih, find_cons]
      by_cases h' : n' = n
      · subst h'; simp [h]
      · simp [h']
theorem upd_names (l : List (ByteArray × FileV)) (n : ByteArray) (f : FileV) : (upd l n f).map (·.1) = if (find l n).isSome then l.map (·.1) else l.map (·.1) ++ [n] := by
  unfold upd
  by_cases h : (find l n).isSome
  · rw [if_pos h, if_pos h, List.map_map]
    apply List.map_congr_left
    intro x _
    simp only [Function.comp]
    split
    · rename_i e; exact e.symm
    · rfl
  · rw [if_neg h, if_neg h, List.map_append]
    rfl
theorem upd_nodup {l : List (ByteArray × FileV)} (h : (l.map (·.1)).Nodup) (n : ByteArray) (f : FileV) : ((upd l n f).map (·.1)).Nodup := by
  rw [upd_names]
  by_cases hf : (find l n).isSome
  · rw [if_pos hf]; exact h
  · rw [if_neg hf, List.nodup_append]
    have hn : find l n = none := by simpa using hf
    refine ⟨h, by simp, ?_⟩
    intro a ha b hb e
    rw [List.mem_singleton] at hb
    subst hb
    subst e
    exact find_none.1 hn ha
theorem gone_nodup {l : List (ByteArray × FileV)} (h : (l.map (·.1)).Nodup) (n : ByteArray) : ((gone l n).map (·.1)).Nodup := (List.Sublist.map _ (List.filter_sublist)).nodup h
theorem upd_length (l : List (ByteArray × FileV)) (n : ByteArray) (f : FileV) : (upd l n f).length = if (find l n).isSome then l.length else l.length + 1 := by
  have := congrArg List.length (upd_names l n f)
  rw [List.length_map] at this
  rw [this]
  split <;> simp
theorem gone_length {l : List (ByteArray × FileV)} (h : (l.map (·.1)).Nodup) (n : ByteArray) : (gone l n).length + (if (find l n).isSome then 1 else 0) = l.length := by
  induction l with
  | nil => simp [find, gone]
  | cons x l ih =>
    rw [List.map_cons, List.nodup_cons] at h
    have ih := ih h.2
    unfold gone at ih ⊢
    rw [find_cons]
    by_cases hx : x.1 = n
    · rw [List.filter_cons_of_neg (by simpa using hx), if_pos hx]
      have hn : find l n = none := find_none.2 (by rw [← hx]; exact h.1)
      rw [hn] at ih
      simp at ih ⊢
      omega
    · rw [List.filter_cons_of_pos (by simpa using hx), if_neg hx]
      simp only [List.length_cons]
      omega
theorem key_lit (n : ByteArray) : WideAt.IsKeyLit (keyLit n) := trivial
theorem rep_empty : Rep (.map []) [] := ⟨tidy_empty, by simp, rfl, fun n => by simp [Maps.has, find], fun n f h => by simp [find] at h, fun k h => by simp [Maps.has] at h⟩
theorem rep_put {D : DataW Unit} {l : List (ByteArray × FileV)} (h : Rep D l) (n : ByteArray) (f : FileV) : Rep (D.put (keyLit n) (fileDat f)) (upd l n f) := by
  refine ⟨h.tidy.put (key_lit n) _, upd_nodup h.nodup n f, ?_, fun n' => ?_, fun n' f' hf z => ?_, fun k hk => ?_⟩
  · rw [size_put h.tidy, h.has, upd_length, h.size]
  · rw [find_upd]
    by_cases e : n' = n
    · subst e
      rw [has_put_same h.tidy.isMap (key_lit _), if_pos rfl]
      rfl
    · rw [has_put_other (fun e' => e (keyLit_inj e')), if_neg e]
      exact h.has n'
  · rw [find_upd] at hf
    by_cases e : n' = n
    · subst e
      rw [if_pos rfl] at hf
      cases hf
      exact atKey_put_same h.tidy.isMap (key_lit _) _ _
    · rw [if_neg e] at hf
      rw [atKey_put_other (fun e' => e (keyLit_inj e'))]
      exact h.at_ n' f' hf z
  · by_cases e : k = keyLit n
    · exact ⟨n, e⟩
    · rw [has_put_other e] at hk
      exact h.only k hk
theorem rep_del {D : DataW Unit} {l : List (ByteArray × FileV)} (h : Rep D l) (n : ByteArray) : Rep (D.del (keyLit n)) (gone l n) := by
  refine ⟨h.tidy.del _, gone_nodup h.nodup n, ?_, fun n' => ?_, fun n' f' hf z => ?_, fun k hk => ?_⟩
  · have h1 := size_del (k := keyLit n) h.tidy
    have h2 := gone_length h.nodup n
    rw [h.has, h.size] at h1
    split at h1 <;> simp_all <;> omega
  · rw [find_gone]
    by_cases e : n' = n
    · subst e
      rw [has_del_same, if_pos rfl]
      rfl
    · rw [has_del_other (fun e' => e (keyLit_inj e')), if_neg e]
      exact h.has n'
  · rw [find_gone] at hf
    by_cases e : n' = n
    · rw [if_pos e] at hf; cases hf
    · rw [if_neg e] at hf
      rw [atKey_del_other (fun e' => e (keyLit_inj e'))]
      exact h.at_ n' f' hf z
  · by_cases e : k = keyLit n
    · exact ⟨n, e⟩
    · rw [has_del_other e] at hk
      exact h.only k hk
theorem rep_none {D : DataW Unit} {l : List (ByteArray × FileV)} (h : Rep D l) {n : ByteArray} (hn : find l n = none) (z : DataW Unit) : D.atKey (keyLit n) z = z := atKey_of_not_has (by rw [h.has, hn]; rfl) z
end Go.Proofs.Yteilnbnnhocciaa.D

/-! D1 -/
set_option linter.unusedVariables false
set_option linter.unusedSimpArgs false
namespace Go.Proofs.Yteilnbnnhocciaa.D
open Go.RowKit Go.Maps Go.ChangeMaps Go.MapKept Go.WideMaps
theorem IsDisk.lt {w : World} {p m : Nat} {k : Dk} (h : IsDisk w p m k) : p < w.heap.size ∧ m < w.heap.size ∧ p ≠ m := by
  obtain ⟨D, n, hm, _, _⟩ := h.map
  refine ⟨(Array.getElem?_eq_some_iff.1 h.row).1, hm.lt, ?_⟩
  rintro rfl
  obtain ⟨es, clock, hb, _⟩ := hm
  rw [h.row] at hb
  cases hb
theorem IsDisk.c0 {w : World} {p m : Nat} {k : Dk} (h : IsDisk w p m k) : w.cell? ⟨p, 0, none⟩ = some (.map (some m)) := by simp [World.cell?, h.row, cells]
theorem IsDisk.c1 {w : World} {p m : Nat} {k : Dk} (h : IsDisk w p m k) : w.cell? ⟨p, 1, none⟩ = some (.int .i64 k.room) := by simp [World.cell?, h.row, cells]
theorem IsDisk.c2 {w : World} {p m : Nat} {k : Dk} (h : IsDisk w p m k) : w.cell? ⟨p, 2, none⟩ = some (.int .i64 k.steps) := by simp [World.cell?, h.row, cells]
theorem IsDisk.c3 {w : World} {p m : Nat} {k : Dk} (h : IsDisk w p m k) : w.cell? ⟨p, 3, none⟩ = some (.int .i64 k.fuse) := by simp [World.cell?, h.row, cells]
theorem IsDisk.c4 {w : World} {p m : Nat} {k : Dk} (h : IsDisk w p m k) : w.cell? ⟨p, 4, none⟩ = some (.int .i64 k.fault) := by simp [World.cell?, h.row, cells]
theorem IsDisk.c5 {w : World} {p m : Nat} {k : Dk} (h : IsDisk w p m k) : w.cell? ⟨p, 5, none⟩ = some (.bool k.down) := by simp [World.cell?, h.row, cells]
theorem IsDisk.fr {w : World} {p m : Nat} {k : Dk} (h : IsDisk w p m k) (i : Nat) : w.frozen? ⟨p, i, none⟩ = false := by simp [World.frozen?, h.row]
theorem IsDisk.keep {S : Nat → Prop} {w w' : World} {p m : Nat} {k : Dk} (h : IsDisk w p m k) (t : Touch S w w') (hp : ¬ S p) (hm : ¬ S m) : IsDisk w' p m k := by
  obtain ⟨l1, l2, l3⟩ := h.lt
  refine ⟨(t.block p l1 hp).trans h.row, ?_⟩
  obtain ⟨D, n, ⟨es, clock, hb, F, hs, hD⟩, hn, hr⟩ := h.map
  exact ⟨D, n, ⟨es, clock, (t.block m l2 hm).trans hb, F, hs, hD⟩, hn, hr⟩
theorem IsDisk.below {w w' : World} {p m : Nat} {k : Dk} (h : IsDisk w p m k) (b : Below w.heap.size w w') : IsDisk w' p m k := h.keep (Touch.of_below (S := fun _ => False) b) (fun e => e) (fun e => e)
theorem IsDisk.alloc {w : World} {p m : Nat} {k : Dk} (h : IsDisk w p m k) (o : Obj) : IsDisk (w.alloc o) p m k := h.below ((Below.refl _ w).alloc (Nat.le_refl _) o)
theorem IsDisk.drew {w : World} {p m : Nat} {k : Dk} (h : IsDisk w p m k) : IsDisk w.drew p m k := ⟨h.row, h.map⟩
theorem IsDisk.put {w : World} {p m : Nat} {k k' : Dk} (h : IsDisk w p m k) (i : Nat) (v : Value) (hc : (cells m k).setIfInBounds i v = cells m k') (hf : k'.files = k.files) : IsDisk (w.setCell ⟨p, i, none⟩ v) p m k' := by
  obtain ⟨l1, l2, l3⟩ := h.lt
  refine ⟨?_, ?_⟩
  · obtain ⟨hlt, hk⟩ := Array.getElem?_eq_some_iff.1 h.row
    show (w.heap.modify p _)[p]? = _
    rw [Array.getElem?_eq_getElem (by rw [Array.size_modify]; exact hlt), Array.getElem_modify_self, hk]
    simp [hc]
  · obtain ⟨D, n, hm, hn, hr⟩ := h.map
    rw [hf]
    exact ⟨D, n, hm.setCell (Ne.symm l3) _, hn, hr⟩
theorem zero60 (w : World) : (zeroValue 60).run Try.prog w = .ok (fileVal noFile) w := by kernel_rfl
theorem IsDisk.look_ok {w : World} {p m : Nat} {k : Dk} (h : IsDisk w p m k) (n : ByteArray) (hn : n.size ≤ maxLen) :
    (Instr.lookup 53 (.map (some m)) (.string n) true).run Try.prog w = .ok (.tuple #[fileVal ((find k.files n).getD noFile), .bool (find k.files n).isSome]) w := by
  obtain ⟨D, q, hm, hq, hr⟩ := h.map
  obtain ⟨v, ps, hrun, hv⟩ := hm.look_ok law53 Try.underlying53 (zero60 w) (fileElem_mk noFile) (keyOf_string_mk Try.underlying9 hn)
  obtain ⟨f, rfl, hz⟩ := fileElem_inv hv
  have hd : D.atKey (keyLit n) (fileDat noFile) = fileDat f := congrArg Prod.fst hz
  have hf : f = (find k.files n).getD noFile := by
    cases hc : find k.files n with
    | none => rw [rep_none hr hc] at hd; exact (fileDat_inj hd).symm
    | some g => rw [hr.at_ n g hc] at hd; exact (fileDat_inj hd).symm
  rw [hrun, hf]
  have e := hr.has n
  unfold keyLit at e
  first | rw [e] | (rw [← e]; rfl)
theorem IsDisk.look {w : World} {p m : Nat} {k : Dk} (h : IsDisk w p m k) (n : ByteArray) (hn : n.size ≤ maxLen) :
    (Instr.lookup 53 (.map (some m)) (.string n) false).run Try.prog w = .ok (fileVal ((find k.files n).getD noFile)) w := by
  obtain ⟨D, q, hm, hq, hr⟩ := h.map
  obtain ⟨v, ps, hrun, hv⟩ := hm.lookup law53 Try.underlying53 (zero60 w) (fileElem_mk noFile) (keyOf_string_mk Try.underlying9 hn)
  obtain ⟨f, rfl, hz⟩ := fileElem_inv hv
  have hd : D.atKey (keyLit n) (fileDat noFile) = fileDat f := congrArg Prod.fst hz
  have hf : f = (find k.files n).getD noFile := by
    cases hc : find k.files n with
    | none => rw [rep_none hr hc] at hd; exact (fileDat_inj hd).symm
    | some g => rw [hr.at_ n g hc] at hd; exact (fileDat_inj hd).symm
  rw [hrun, hf]
theorem IsDisk.len {w : World} {p m : Nat} {k : Dk} (h : IsDisk w p m k) (ty : TypeId) : (Builtin.len_ #[53] ty #[.map (some m)]).run Try.prog w = .ok (.int .i64 (k.files.length : Nat)) w := by
  obtain ⟨D, q, hm, hq, hr⟩ := h.map
  rw [hm.len Try.underlying53 ty, hr.size]
theorem IsDisk.store {w : World} {p m : Nat} {k : Dk} (h : IsDisk w p m k) (n : ByteArray) (hn : n.size ≤ maxLen) (f : FileV) (hl : k.files.length < 1000000) :
    ∃ w', (Instr.mapUpdate 53 (.map (some m)) (.string n) (fileVal f)).run Try.prog w = .ok () w' ∧ IsDisk w' p m { k with files := upd k.files n f } ∧ w.grownBy w' (some m) := by
  obtain ⟨l1, l2, l3⟩ := h.lt
  obtain ⟨D, q, hm, hq, hr⟩ := h.map
  obtain ⟨w', hrun, hm', ht⟩ := hm.store law53 Try.underlying53 (by unfold maxLen; omega) (keyOf_string_mk Try.underlying9 hn) (fileElem_mk f)
  have hg := ht.grown
  refine ⟨w', hrun, ⟨(hg.block p l1 (fun e => l3 (by cases e; rfl))).trans h.row, ?_⟩, hg⟩
  have hr' := rep_put hr n f
  obtain ⟨es, clock, hb, F, hs, hD⟩ := hm'
  refine ⟨_, es.size, ⟨es, clock, hb, F, Nat.le_refl _, rfl⟩, ?_, ?_⟩
  · have e1 : Maps.size (D.put (keyLit n) (fileDat f)) = es.size := by
      show Maps.size (D.put (.string n.data.toList) (fileDat f)) = es.size
      rw [hD]
      simp [Maps.size, length_sorted]
    have e2 := hr'.size
    show es.size ≤ (upd k.files n f).length
    omega
  · rw [← hD]
    exact hr'
theorem IsDisk.drop {w : World} {p m : Nat} {k : Dk} (h : IsDisk w p m k) (n : ByteArray) (hn : n.size ≤ maxLen) (ty : TypeId) :
    ∃ w', (Builtin.delete_ #[53, 9] ty #[.map (some m), .string n]).run Try.prog w = .ok (.tuple #[]) w' ∧ IsDisk w' p m { k with files := gone k.files n } ∧ w.grownBy w' (some m) := by
  obtain ⟨l1, l2, l3⟩ := h.lt
  obtain ⟨D, q, hm, hq, hr⟩ := h.map
  obtain ⟨w', hrun, hm', ht⟩ := hm.drop law53 Try.underlying53 (keyOf_string_mk Try.underlying9 hn) ty
  have hg := ht.grown
  refine ⟨w', hrun, ⟨(hg.block p l1 (fun e => l3 (by cases e; rfl))).trans h.row, ?_⟩, hg⟩
  have hr' := rep_del hr n
  obtain ⟨es, clock, hb, F, hs, hD⟩ := hm'
  refine ⟨_, es.size, ⟨es, clock, hb, F, Nat.le_refl _, rfl⟩, ?_, ?_⟩
  · have e1 : Maps.size (D.del (keyLit n)) = es.size := by
      show Maps.size (D.del (.string n.data.toList)) = es.size
      rw [hD]
      simp [Maps.size, length_sorted]
    have e2 := hr'.size
    show es.size ≤ (gone k.files n).length
    omega
  · rw [← hD]
    exact hr'
end Go.Proofs.Yteilnbnnhocciaa.D

/-! D2 -/
set_option linter.unusedVariables false
set_option linter.unusedSimpArgs false
namespace Go.Proofs.Yteilnbnnhocciaa.D
open Go.RowKit Go.Maps Go.ChangeMaps Go.MapKept Go.WideMaps Go.Proofs.YteilnbnnhocciaaW.PrintWords Go.Proofs.YteilnbnnhocciaaW.PrintLast Go.Proofs.YteilnbnnhocciaaW.PrintMore
attribute [local go_sem] max2_int min2_int max_two min_two max_three min_three max_four min_four
abbrev dp (p : Nat) : Value := .pointer (some ⟨p, 0, none⟩)
theorem may_on {w : World} {p m : Nat} {k : Dk} (h : IsDisk w p m k) (hd : k.down = false) : Calls Try.prog 29 #[dp p] w fun e w' => e = .returned (.int .i64 0) ∧ w' = w := by
  have c := h.c5
  rw [hd] at c
  have H := Hush.mk h
  clear h hd
  go_enter Try.func29, Try.ntmps29
  go_wp2
  go_ret
  exact ⟨rfl, rfl⟩
theorem may_off {w : World} {p m : Nat} {k : Dk} (h : IsDisk w p m k) (hd : k.down = true) : Calls Try.prog 29 #[dp p] w fun e w' => e = .returned (.int .i64 13) ∧ w' = w := by
  have c := h.c5
  rw [hd] at c
  have H := Hush.mk h
  clear h hd
  go_enter Try.func29, Try.ntmps29
  go_wp2
  go_ret
  exact ⟨rfl, rfl⟩
theorem there_yes {w : World} {p m : Nat} {k : Dk} (h : IsDisk w p m k) (n : ByteArray) (hn : n.size ≤ maxLen) (f : FileV) (hf : find k.files n = some f) : Calls Try.prog 31 #[dp p, .string n] w fun e w' => e = .returned (.int .i64 0) ∧ Below w.heap.size w w' := by
  have c := h.c0
  have hl := h.look_ok n hn
  rw [hf] at hl
  simp only [Option.getD_some, Option.isSome_some, fileVal] at hl
  have H := Hush.mk h
  have HF := Hush.mk hf
  clear h hf hn
  go_enter Try.func31, Try.ntmps31
  go_wp2
  go_ret
  exact ⟨rfl, (Below.refl _ _).alloc (Nat.le_refl _) _⟩
theorem there_no {w : World} {p m : Nat} {k : Dk} (h : IsDisk w p m k) (n : ByteArray) (hn : n.size ≤ maxLen) (hf : find k.files n = none) : Calls Try.prog 31 #[dp p, .string n] w fun e w' => e = .returned (.int .i64 16) ∧ Below w.heap.size w w' := by
  have c := h.c0
  have hl := h.look_ok n hn
  rw [hf] at hl
  simp only [Option.getD_none, Option.isSome_none, fileVal, noFile] at hl
  have H := Hush.mk h
  have HF := Hush.mk hf
  clear h hf hn
  go_enter Try.func31, Try.ntmps31
  go_wp2
  go_ret
  exact ⟨rfl, (Below.refl _ _).alloc (Nat.le_refl _) _⟩
def nearer (x : Int) : Int := if 0 < x then x - 1 else x
def stepE (k : Dk) (own : Int) : Int := if own ≠ 0 then own else if k.fuse = 0 then 13 else if k.fault = 0 then 15 else 0
def stepK (k : Dk) (own : Int) : Dk := if own ≠ 0 then k else if k.fuse = 0 then { k with down := true } else if k.fault = 0 then { k with fault := -1 } else { k with fuse := nearer k.fuse, fault := nearer k.fault, steps := wrap64 (k.steps + 1) }
def StepPost (p m : Nat) (k : Dk) (own : Int) (w : World) (e : Ending) (w' : World) : Prop := e = .returned (.int .i64 (stepE k own)) ∧ IsDisk w' p m (stepK k own) ∧ Touch (· = p) w w'
theorem step_own {w : World} {p m : Nat} {k : Dk} (h : IsDisk w p m k) (own : Int) (ho : own ≠ 0) : Calls Try.prog 32 #[dp p, .int .i64 own] w (StepPost p m k own w) := by
  have H := Hush.mk h
  have HO := Hush.mk ho
  have hb : (own != 0) = true := by simpa using ho
  clear h ho
  go_enter Try.func32, Try.ntmps32
  go_wp2
  go_ret
  exact ⟨by simp [stepE, HO.out], by simp only [stepK, if_pos HO.out]; exact H.out, Touch.refl _ _⟩
theorem step_fuse {w : World} {p m : Nat} {k : Dk} (h : IsDisk w p m k) (hf : k.fuse = 0) : Calls Try.prog 32 #[dp p, .int .i64 0] w (StepPost p m k 0 w) := by
  have c3 := h.c3
  have c5 := h.c5
  have f5 := h.fr 5
  rw [hf] at c3
  have H := Hush.mk h
  have HF := Hush.mk hf
  clear h hf
  go_enter Try.func32, Try.ntmps32
  go_wp2
  go_ret
  exact ⟨by simp [stepE, HF.out], by rw [show stepK k 0 = { k with down := true } from by unfold stepK; rw [if_neg (by decide), if_pos HF.out]]; exact H.out.put 5 _ (by simp [cells]) rfl, Touch.setCell _ _ _ rfl⟩
theorem step_fault {w : World} {p m : Nat} {k : Dk} (h : IsDisk w p m k) (hf : k.fuse ≠ 0) (hg : k.fault = 0) : Calls Try.prog 32 #[dp p, .int .i64 0] w (StepPost p m k 0 w) := by
  have c3 := h.c3
  have c4 := h.c4
  have f4 := h.fr 4
  rw [hg] at c4
  have H := Hush.mk h
  have HF := Hush.mk hf
  have HG := Hush.mk hg
  have hb : (k.fuse == 0) = false := by simpa using hf
  clear h hf hg
  go_enter Try.func32, Try.ntmps32
  go_wp2
  go_ret
  exact ⟨by simp [stepE, HF.out, HG.out], by rw [show stepK k 0 = { k with fault := -1 } from by unfold stepK; rw [if_neg (by decide), if_neg HF.out, if_pos HG.out]]; exact H.out.put 4 _ (by simp [cells]) rfl, Touch.setCell _ _ _ rfl⟩
theorem Touch.drew {S : Nat → Prop} (w : World) : Touch S w w.drew := ⟨rfl, rfl, rfl, Nat.le_refl _, fun _ _ _ => rfl⟩
theorem put_three {w : World} {p m : Nat} {k : Dk} (h : IsDisk w p m k) (a b c : Int) : IsDisk (((w.setCell ⟨p, 3, none⟩ (.int .i64 a)).setCell ⟨p, 4, none⟩ (.int .i64 b)).setCell ⟨p, 2, none⟩ (.int .i64 c)) p m { k with fuse := a, fault := b, steps := c } :=
  ((h.put (k' := { k with fuse := a }) 3 _ (by simp [cells]) rfl).put (k' := { k with fuse := a, fault := b }) 4 _ (by simp [cells]) rfl).put 2 _ (by simp [cells]) rfl
theorem put_three' {w : World} {p m : Nat} {k : Dk} (h : IsDisk w p m k) (a b c : Int) : IsDisk (((w.setCell ⟨p, 4, none⟩ (.int .i64 b)).setCell ⟨p, 3, none⟩ (.int .i64 a)).setCell ⟨p, 2, none⟩ (.int .i64 c)) p m { k with fuse := a, fault := b, steps := c } :=
  ((h.put (k' := { k with fault := b }) 4 _ (by simp [cells]) rfl).put (k' := { k with fuse := a, fault := b }) 3 _ (by simp [cells]) rfl).put 2 _ (by simp [cells]) rfl
theorem touch_three (w : World) (p i j l : Nat) (a b c : Value) : Touch (· = p) w (((w.setCell ⟨p, i, none⟩ a).setCell ⟨p, j, none⟩ b).setCell ⟨p, l, none⟩ c) :=
  ((Touch.setCell (S := (· = p)) w ⟨p, i, none⟩ a rfl).trans (Touch.setCell _ ⟨p, j, none⟩ b rfl)).trans (Touch.setCell _ ⟨p, l, none⟩ c rfl)
set_option maxHeartbeats 1000000 in
theorem step_pp {w : World} {p m : Nat} {k : Dk} (h : IsDisk w p m k) (hf : 0 < k.fuse) (hf2 : k.fuse ≤ 9223372036854775807) (hg : 0 < k.fault) (hg2 : k.fault ≤ 9223372036854775807) : Calls Try.prog 32 #[dp p, .int .i64 0] w (StepPost p m k 0 w) := by
  have c2 := h.c2
  have c3 := h.c3
  have c4 := h.c4
  have f2 := h.fr 2
  have f3 := h.fr 3
  have f4 := h.fr 4
  have H := Hush.mk h
  have hK : stepK k 0 = { k with fuse := k.fuse - 1, fault := k.fault - 1, steps := wrap64 (k.steps + 1) } := by
    unfold stepK nearer
    rw [if_neg (by decide), if_neg (by omega), if_neg (by omega), if_pos hf, if_pos hg]
  have hE : stepE k 0 = 0 := by unfold stepE; rw [if_neg (by decide), if_neg (by omega), if_neg (by omega)]
  have HP : Hush (∀ w', (w' = (((w.setCell ⟨p, 3, none⟩ (.int .i64 (k.fuse - 1))).setCell ⟨p, 4, none⟩ (.int .i64 (k.fault - 1))).setCell ⟨p, 2, none⟩ (.int .i64 (wrap64 (k.steps + 1)))).drew ∨ w' = (((w.setCell ⟨p, 4, none⟩ (.int .i64 (k.fault - 1))).setCell ⟨p, 3, none⟩ (.int .i64 (k.fuse - 1))).setCell ⟨p, 2, none⟩ (.int .i64 (wrap64 (k.steps + 1)))).drew) → StepPost p m k 0 w (.returned (.int .i64 0)) w') := ⟨by
    rintro w' (rfl | rfl)
    · exact ⟨by rw [hE], by rw [hK]; exact (put_three h _ _ _).drew, (touch_three _ _ _ _ _ _ _ _).trans (Touch.drew _)⟩
    · exact ⟨by rw [hE], by rw [hK]; exact (put_three' h _ _ _).drew, (touch_three _ _ _ _ _ _ _ _).trans (Touch.drew _)⟩⟩
  have hb : (k.fuse == 0) = false := by simp; omega
  have hb2 : (k.fault == 0) = false := by simp; omega
  have hc1 : -1 < k.fuse := by omega
  have hc2 : -1 < k.fault := by omega
  have hc3 : 0 ≤ k.fuse := by omega
  have hc4 : 0 ≤ k.fault := by omega
  clear h hK hE
  go_enter Try.func32, Try.ntmps32
  go_wp2
  go_region
  all_goals go_wp2
  all_goals go_ret
  all_goals first | exact HP.out _ (.inl rfl) | exact HP.out _ (.inr rfl)
set_option maxHeartbeats 1000000 in
theorem step_pn {w : World} {p m : Nat} {k : Dk} (h : IsDisk w p m k) (hf : 0 < k.fuse) (hf2 : k.fuse ≤ 9223372036854775807) (hg : k.fault = -1) : Calls Try.prog 32 #[dp p, .int .i64 0] w (StepPost p m k 0 w) := by
  have c2 := h.c2
  have c3 := h.c3
  have c4 := h.c4
  rw [hg] at c4
  have f2 := h.fr 2
  have f3 := h.fr 3
  have f4 := h.fr 4
  have H := Hush.mk h
  have hK : stepK k 0 = { k with fuse := k.fuse - 1, fault := -1, steps := wrap64 (k.steps + 1) } := by
    unfold stepK nearer
    rw [if_neg (by decide), if_neg (by omega), if_neg (by omega), if_pos hf, if_neg (show ¬ 0 < k.fault by omega), hg]
  have hE : stepE k 0 = 0 := by unfold stepE; rw [if_neg (by decide), if_neg (by omega), if_neg (by omega)]
  have HP : Hush (∀ w', (w' = (((w.setCell ⟨p, 3, none⟩ (.int .i64 (k.fuse - 1))).setCell ⟨p, 4, none⟩ (.int .i64 (-1))).setCell ⟨p, 2, none⟩ (.int .i64 (wrap64 (k.steps + 1)))).drew ∨ w' = (((w.setCell ⟨p, 4, none⟩ (.int .i64 (-1))).setCell ⟨p, 3, none⟩ (.int .i64 (k.fuse - 1))).setCell ⟨p, 2, none⟩ (.int .i64 (wrap64 (k.steps + 1)))).drew) → StepPost p m k 0 w (.returned (.int .i64 0)) w') := ⟨by
    rintro w' (rfl | rfl)
    · exact ⟨by rw [hE], by rw [hK]; exact (put_three h _ _ _).drew, (touch_three _ _ _ _ _ _ _ _).trans (Touch.drew _)⟩
    · exact ⟨by rw [hE], by rw [hK]; exact (put_three' h _ _ _).drew, (touch_three _ _ _ _ _ _ _ _).trans (Touch.drew _)⟩⟩
  have hb : (k.fuse == 0) = false := by simp; omega
  have hc1 : -1 < k.fuse := by omega
  have hc3 : 0 ≤ k.fuse := by omega
  clear h hK hE hg
  go_enter Try.func32, Try.ntmps32
  go_wp2
  go_region
  all_goals go_wp2
  all_goals go_ret
  all_goals first | exact HP.out _ (.inl rfl) | exact HP.out _ (.inr rfl)
set_option maxHeartbeats 1000000 in
theorem step_np {w : World} {p m : Nat} {k : Dk} (h : IsDisk w p m k) (hf : k.fuse = -1) (hg : 0 < k.fault) (hg2 : k.fault ≤ 9223372036854775807) : Calls Try.prog 32 #[dp p, .int .i64 0] w (StepPost p m k 0 w) := by
  have c2 := h.c2
  have c3 := h.c3
  rw [hf] at c3
  have c4 := h.c4
  have f2 := h.fr 2
  have f3 := h.fr 3
  have f4 := h.fr 4
  have H := Hush.mk h
  have hK : stepK k 0 = { k with fuse := -1, fault := k.fault - 1, steps := wrap64 (k.steps + 1) } := by
    unfold stepK nearer
    rw [if_neg (by decide), if_neg (by omega), if_neg (by omega), if_neg (show ¬ 0 < k.fuse by omega), hf, if_pos hg]
  have hE : stepE k 0 = 0 := by unfold stepE; rw [if_neg (by decide), if_neg (by omega), if_neg (by omega)]
  have HP : Hush (∀ w', (w' = (((w.setCell ⟨p, 3, none⟩ (.int .i64 (-1))).setCell ⟨p, 4, none⟩ (.int .i64 (k.fault - 1))).setCell ⟨p, 2, none⟩ (.int .i64 (wrap64 (k.steps + 1)))).drew ∨ w' = (((w.setCell ⟨p, 4, none⟩ (.int .i64 (k.fault - 1))).setCell ⟨p, 3, none⟩ (.int .i64 (-1))).setCell ⟨p, 2, none⟩ (.int .i64 (wrap64 (k.steps + 1)))).drew) → StepPost p m k 0 w (.returned (.int .i64 0)) w') := ⟨by
    rintro w' (rfl | rfl)
    · exact ⟨by rw [hE], by rw [hK]; exact (put_three h _ _ _).drew, (touch_three _ _ _ _ _ _ _ _).trans (Touch.drew _)⟩
    · exact ⟨by rw [hE], by rw [hK]; exact (put_three' h _ _ _).drew, (touch_three _ _ _ _ _ _ _ _).trans (Touch.drew _)⟩⟩
  have hb2 : (k.fault == 0) = false := by simp; omega
  have hc2 : -1 < k.fault := by omega
  have hc4 : 0 ≤ k.fault := by omega
  clear h hK hE hf
  go_enter Try.func32, Try.ntmps32
  go_wp2
  go_region
  all_goals go_wp2
  all_goals go_ret
  all_goals first | exact HP.out _ (.inl rfl) | exact HP.out _ (.inr rfl)
set_option maxHeartbeats 1000000 in
theorem step_nn {w : World} {p m : Nat} {k : Dk} (h : IsDisk w p m k) (hf : k.fuse = -1) (hg : k.fault = -1) : Calls Try.prog 32 #[dp p, .int .i64 0] w (StepPost p m k 0 w) := by
  have c2 := h.c2
  have c3 := h.c3
  rw [hf] at c3
  have c4 := h.c4
  rw [hg] at c4
  have f2 := h.fr 2
  have f3 := h.fr 3
  have f4 := h.fr 4
  have H := Hush.mk h
  have hK : stepK k 0 = { k with fuse := -1, fault := -1, steps := wrap64 (k.steps + 1) } := by
    unfold stepK nearer
    rw [if_neg (by decide), if_neg (by omega), if_neg (by omega), if_neg (show ¬ 0 < k.fuse by omega), hf, if_neg (show ¬ 0 < k.fault by omega), hg]
  have hE : stepE k 0 = 0 := by unfold stepE; rw [if_neg (by decide), if_neg (by omega), if_neg (by omega)]
  have HP : Hush (∀ w', (w' = (((w.setCell ⟨p, 3, none⟩ (.int .i64 (-1))).setCell ⟨p, 4, none⟩ (.int .i64 (-1))).setCell ⟨p, 2, none⟩ (.int .i64 (wrap64 (k.steps + 1)))).drew ∨ w' = (((w.setCell ⟨p, 4, none⟩ (.int .i64 (-1))).setCell ⟨p, 3, none⟩ (.int .i64 (-1))).setCell ⟨p, 2, none⟩ (.int .i64 (wrap64 (k.steps + 1)))).drew) → StepPost p m k 0 w (.returned (.int .i64 0)) w') := ⟨by
    rintro w' (rfl | rfl)
    · exact ⟨by rw [hE], by rw [hK]; exact (put_three h _ _ _).drew, (touch_three _ _ _ _ _ _ _ _).trans (Touch.drew _)⟩
    · exact ⟨by rw [hE], by rw [hK]; exact (put_three' h _ _ _).drew, (touch_three _ _ _ _ _ _ _ _).trans (Touch.drew _)⟩⟩
  clear h hK hE hf hg
  go_enter Try.func32, Try.ntmps32
  go_wp2
  go_region
  all_goals go_wp2
  all_goals go_ret
  all_goals first | exact HP.out _ (.inl rfl) | exact HP.out _ (.inr rfl)
def fuseOk (x : Int) : Prop := -1 ≤ x ∧ x ≤ 9223372036854775807
theorem step_any {w : World} {p m : Nat} {k : Dk} (h : IsDisk w p m k) (own : Int) (hf : fuseOk k.fuse) (hg : fuseOk k.fault) : Calls Try.prog 32 #[dp p, .int .i64 own] w (StepPost p m k own w) := by
  by_cases ho : own = 0
  · subst ho
    by_cases h0 : k.fuse = 0
    · exact step_fuse h h0
    · by_cases h1 : k.fault = 0
      · exact step_fault h h0 h1
      · obtain ⟨a1, a2⟩ := hf
        obtain ⟨b1, b2⟩ := hg
        by_cases h2 : 0 < k.fuse
        · by_cases h3 : 0 < k.fault
          · exact step_pp h h2 a2 h3 b2
          · exact step_pn h h2 a2 (by omega)
        · by_cases h3 : 0 < k.fault
          · exact step_np h (by omega) h3 b2
          · exact step_nn h (by omega) (by omega)
  · exact step_own h own ho
theorem step_fuseOk {k : Dk} (own : Int) (hf : fuseOk k.fuse) (hg : fuseOk k.fault) : fuseOk (stepK k own).fuse ∧ fuseOk (stepK k own).fault := by
  unfold fuseOk at *
  unfold stepK
  split
  · exact ⟨hf, hg⟩
  · split
    · exact ⟨hf, hg⟩
    · split
      · exact ⟨hf, by show (-1 : Int) ≤ -1; decide, by show (-1 : Int) ≤ 9223372036854775807; decide⟩
      · simp only [nearer]
        constructor
        · split <;> omega
        · split <;> omega
theorem step_files {k : Dk} (own : Int) : (stepK k own).files = k.files ∧ (stepK k own).room = k.room := by
  unfold stepK
  split
  · exact ⟨rfl, rfl⟩
  · split
    · exact ⟨rfl, rfl⟩
    · split <;> exact ⟨rfl, rfl⟩
end Go.Proofs.Yteilnbnnhocciaa.D

/-! D3 -/
set_option linter.unusedVariables false
set_option linter.unusedSimpArgs false
namespace Go.Proofs.Yteilnbnnhocciaa.D
open Go.RowKit Go.Maps Go.ChangeMaps Go.MapKept Go.WideMaps Go.Proofs.YteilnbnnhocciaaW.PrintWords Go.Proofs.YteilnbnnhocciaaW.PrintLast Go.Proofs.YteilnbnnhocciaaW.PrintMore
attribute [local go_sem] max2_int min2_int max_two min_two max_three min_three max_four min_four
def newDk (room : Int) : Dk := ⟨[], room, 0, -1, -1, false⟩
theorem new_no (room : Int) (w : World) (h : room < 0 ∨ 16777216 < room) : Calls Try.prog 8 #[.int .i64 room] w fun e w' => e = .returned (.tuple #[.pointer none, .int .i64 2]) ∧ w' = w := by
  by_cases h1 : room < 0
  · clear h
    go_enter Try.func8, Try.ntmps8
    go_wp2
    go_ret2
    exact ⟨rfl, rfl⟩
  · have h2 : 16777216 < room := by omega
    clear h
    go_enter Try.func8, Try.ntmps8
    go_wp2
    go_ret2
    exact ⟨rfl, rfl⟩
theorem new_yes (room : Int) (w : World) (h0 : 0 ≤ room) (h1 : room ≤ 16777216) : Calls Try.prog 8 #[.int .i64 room] w fun e w' =>
    e = .returned (.tuple #[dp (w.heap.size + 1), .int .i64 0]) ∧ IsDisk w' (w.heap.size + 1) w.heap.size (newDk room) ∧ Below w.heap.size w w' := by
  have hmm := @run_makeMap Try.prog
  go_enter Try.func8, Try.ntmps8
  go_wp2
  go_ret2
  refine ⟨rfl, ?_, ((Below.refl _ _).alloc (Nat.le_refl _) _).alloc (by simp) _⟩
  refine ⟨?_, ?_⟩
  · have := World.alloc_heap_new (w.alloc (.map #[] 0)) (.cells (cells w.heap.size (newDk room)) 55)
    rw [World.size_alloc] at this
    exact this
  · exact ⟨.map [], 0, (World.ownsMap_made _ _ _ _).alloc _, Nat.le_refl _, rep_empty⟩
def NamedIs (b : ByteArray → Bool) : Prop := ∀ (n : ByteArray) (w : World), n.size ≤ maxLen → Calls Try.prog 30 #[.string n] w fun e w' => e = .returned (.bool (b n)) ∧ Below w.heap.size w w'
def thereE (k : Dk) (n : ByteArray) : Int := if (find k.files n).isSome then 0 else 16
def createOwn (b : ByteArray → Bool) (k : Dk) (n : ByteArray) : Int := if b n = false then 12 else if (find k.files n).isSome then 17 else if 200 ≤ k.files.length then 6 else 0
def own2 (p m : Nat) : Nat → Prop := fun b => b = p ∨ b = m
def ActPost (p m : Nat) (k : Dk) (r : Int) (w : World) (e : Ending) (w' : World) : Prop := e = .returned (.int .i64 r) ∧ IsDisk w' p m k ∧ Touch (own2 p m) w w'
theorem touch_p {p m : Nat} {w w' : World} (h : Touch (· = p) w w') : Touch (own2 p m) w w' := h.mono (fun _ e => .inl e)
theorem touch_b {p m : Nat} {w w' : World} (h : Below w.heap.size w w') : Touch (own2 p m) w w' := Touch.of_below h
theorem create_off {w : World} {p m : Nat} {k : Dk} (h : IsDisk w p m k) (n : ByteArray) (hd : k.down = true) : Calls Try.prog 10 #[dp p, .string n] w (ActPost p m k 13 w) := by
  have H := Hush.mk h
  have HD := Hush.mk hd
  clear h hd
  go_enter Try.func10, Try.ntmps10
  go_wp2_with fail
  refine (may_off H.out HD.out).mono ?_
  rintro e w1 ⟨rfl, rfl⟩
  go_wp2
  go_ret
  exact ⟨rfl, H.out, Touch.refl _ _⟩
theorem create_bad {w : World} {p m : Nat} {k : Dk} (h : IsDisk w p m k) (n : ByteArray) (hn : n.size ≤ maxLen) (b : ByteArray → Bool) (hb : NamedIs b) (hd : k.down = false) (hnb : b n = false) : Calls Try.prog 10 #[dp p, .string n] w (ActPost p m k 12 w) := by
  have H := Hush.mk h
  have HD := Hush.mk hd
  have HN := Hush.mk hn
  have HB := Hush.mk hb
  have HNB := Hush.mk hnb
  clear h hd hn hb hnb
  go_enter Try.func10, Try.ntmps10
  go_wp2_with fail
  refine (may_on H.out HD.out).mono ?_
  rintro e w1 ⟨rfl, rfl⟩
  go_wp2_with fail
  refine (HB.out n _ HN.out).mono ?_
  rw [HNB.out]
  rintro e w2 ⟨rfl, hb2⟩
  have H2 := Hush.mk (H.out.below hb2)
  have T2 := Hush.mk (touch_b (p := p) (m := m) hb2)
  clear hb2
  go_wp2_with fail
  refine (step_own H2.out 12 (by decide)).mono ?_
  rintro e w3 ⟨rfl, hi, ht⟩
  have e3 : stepE k 12 = 12 := by simp [stepE]
  have k3 : stepK k 12 = k := by simp [stepK]
  rw [k3] at hi
  rw [e3]
  have H3 := Hush.mk hi
  have T3 := Hush.mk (T2.out.trans (touch_p ht))
  clear hi ht e3 k3
  go_wp2
  go_ret
  exact ⟨rfl, H3.out, T3.out⟩
end Go.Proofs.Yteilnbnnhocciaa.D

/-! D5 -/
set_option linter.unusedVariables false
set_option linter.unusedSimpArgs false
namespace Go.Proofs.Yteilnbnnhocciaa.D
open Go.RowKit Go.Maps Go.ChangeMaps Go.MapKept Go.WideMaps Go.Shelf Go.Proofs Go.Proofs.YteilnbnnhocciaaW.PrintWords Go.Proofs.YteilnbnnhocciaaW.PrintLast Go.Proofs.YteilnbnnhocciaaW.PrintMore
def badRune (r : Nat) : Bool := !((decide (97 ≤ r) && decide (r ≤ 122)) || (decide (48 ≤ r) && decide (r ≤ 57)) || decide (r = 45) || decide (r = 46))
set_option maxHeartbeats 1000000 in
theorem bad_pred (w : World) : PredAt Try.prog 48 #[] encR badRune w := fun W r _ => by
  unfold FnGives
  by_cases h1 : 97 ≤ r <;> by_cases h2 : r ≤ 122 <;> by_cases h3 : 48 ≤ r <;> by_cases h4 : r ≤ 57 <;> by_cases h5 : r = 45 <;> by_cases h6 : r = 46
  all_goals first
    | (exfalso; omega)
    | (have z1 : (97 : Int) ≤ (r : Int) ↔ 97 ≤ r := by omega
       have z2 : (r : Int) ≤ 122 ↔ r ≤ 122 := by omega
       have z3 : (48 : Int) ≤ (r : Int) ↔ 48 ≤ r := by omega
       have z4 : (r : Int) ≤ 57 ↔ r ≤ 57 := by omega
       have z5 : (r : Int) = 45 ↔ r = 45 := by omega
       have z6 : (r : Int) = 46 ↔ r = 46 := by omega
       go_enter Try.func48, Try.ntmps48
       go_wp2
       all_goals first | (exfalso; omega) | (go_ret; exact ⟨by first | (simp [badRune, h1, h2, h3, h4, h5, h6]; done) | (simp [badRune, h1, h2, h3, h4, h5, h6]; omega), 0, rfl⟩))
def isName (n : ByteArray) : Bool := n.toList != [] && (decide (n.size ≤ 32) && !(decide (0 ≤ Lib.idxFunc badRune true n)))
theorem contains_bad (n : ByteArray) (w : World) : Calls Try.prog 47 #[.string n, .func (.func 48) #[] #[]] w fun e w' => e = .returned (.bool (decide (0 ≤ Lib.idxFunc badRune true n))) ∧ Below w.heap.size w w' :=
  Any.strings_ContainsFunc Try.l17 48 #[] (enters_of Try.func48 (by kernel_rfl) rfl) badRune n w (bad_pred w)
set_option maxHeartbeats 1000000 in
theorem named_is : NamedIs isName := by
  intro n w hn
  unfold maxLen at hn
  by_cases h0 : n.toList = []
  · have HI : Hush (isName n = false) := ⟨by simp [isName, h0]⟩
    have hb : (n.toList != []) = false := by simpa using h0
    have hs : n.toList.isEmpty = true := by rw [h0]; rfl
    rw [HI.out]
    clear HI
    go_enter Try.func30, Try.ntmps30
    go_wp2
    go_ret
    exact ⟨rfl, Below.refl _ _⟩
  · have hb : (n.toList != []) = true := by simpa using h0
    have hs : (!n.toList.isEmpty) = true := by cases hl : n.toList with
      | nil => exact absurd hl h0
      | cons => rfl
    by_cases h1 : n.size ≤ 32
    · have hd : decide (n.size ≤ 32) = true := decide_eq_true h1
      obtain ⟨q, hq⟩ : ∃ q, q = decide (0 ≤ Lib.idxFunc badRune true n) := ⟨_, rfl⟩
      have hc := contains_bad n w
      rw [← hq] at hc
      have HI : Hush (isName n = !q) := ⟨by unfold isName; rw [← hq, hb, hd]; rfl⟩
      have HC := Hush.mk hc
      rw [HI.out]
      clear HI hq hc
      go_enter Try.func30, Try.ntmps30
      go_wp2_with fail
      refine HC.out.mono ?_
      rintro e w' ⟨rfl, hb⟩
      go_wp2
      go_ret
      exact ⟨rfl, hb⟩
    · have hd : decide (n.size ≤ 32) = false := decide_eq_false h1
      have HI : Hush (isName n = false) := ⟨by unfold isName; rw [hd]; simp⟩
      rw [HI.out]
      clear HI
      go_enter Try.func30, Try.ntmps30
      go_wp2
      go_ret
      exact ⟨rfl, Below.refl _ _⟩
end Go.Proofs.Yteilnbnnhocciaa.D

/-! D6 -/
set_option linter.unusedVariables false
set_option linter.unusedSimpArgs false
namespace Go.Proofs.Yteilnbnnhocciaa.D
open Go.RowKit Go.Maps Go.ChangeMaps Go.MapKept Go.WideMaps Go.Proofs.YteilnbnnhocciaaW.PrintWords Go.Proofs.YteilnbnnhocciaaW.PrintLast Go.Proofs.YteilnbnnhocciaaW.PrintMore
attribute [local go_sem] max2_int min2_int max_two min_two max_three min_three max_four min_four
theorem create_there {w : World} {p m : Nat} {k : Dk} (h : IsDisk w p m k) (n : ByteArray) (hn : n.size ≤ maxLen) (hd : k.down = false) (hnb : isName n = true) (f : FileV) (hf : find k.files n = some f) : Calls Try.prog 10 #[dp p, .string n] w (ActPost p m k 17 w) := by
  have H := Hush.mk h
  have HD := Hush.mk hd
  have HN := Hush.mk hn
  have HNB := Hush.mk hnb
  have HF := Hush.mk hf
  clear h hd hn hnb hf
  go_enter Try.func10, Try.ntmps10
  go_wp2_with fail
  refine (may_on H.out HD.out).mono ?_
  rintro e w1 ⟨rfl, rfl⟩
  go_wp2_with fail
  refine (named_is n _ HN.out).mono ?_
  rw [HNB.out]
  rintro e w2 ⟨rfl, hb2⟩
  have H2 := Hush.mk (H.out.below hb2)
  have T2 := Hush.mk (touch_b (p := p) (m := m) hb2)
  clear hb2
  go_wp2_with fail
  refine (there_yes H2.out n HN.out f HF.out).mono ?_
  rintro e w3 ⟨rfl, hb3⟩
  have H3 := Hush.mk (H2.out.below hb3)
  have T3 := Hush.mk (T2.out.trans (touch_b (p := p) (m := m) hb3))
  clear hb3
  go_wp2_with fail
  refine (step_own H3.out 17 (by decide)).mono ?_
  rintro e w4 ⟨rfl, hi, ht⟩
  have e3 : stepE k 17 = 17 := by simp [stepE]
  have k3 : stepK k 17 = k := by simp [stepK]
  rw [k3] at hi
  rw [e3]
  have H4 := Hush.mk hi
  have T4 := Hush.mk (T3.out.trans (touch_p ht))
  clear hi ht e3 k3
  go_wp2
  go_ret
  exact ⟨rfl, H4.out, T4.out⟩
set_option maxRecDepth 100000 in
theorem create_many {w : World} {p m : Nat} {k : Dk} (h : IsDisk w p m k) (n : ByteArray) (hn : n.size ≤ maxLen) (hd : k.down = false) (hnb : isName n = true) (hf : find k.files n = none) (hl : 200 ≤ k.files.length) : Calls Try.prog 10 #[dp p, .string n] w (ActPost p m k 6 w) := by
  have H := Hush.mk h
  have HD := Hush.mk hd
  have HN := Hush.mk hn
  have HNB := Hush.mk hnb
  have HF := Hush.mk hf
  have hl2 : (200 : Int) ≤ (k.files.length : Int) := by omega
  have hll : decide ((200 : Int) ≤ (k.files.length : Int)) = true := decide_eq_true hl2
  clear h hd hn hnb hf hl
  go_enter Try.func10, Try.ntmps10
  go_wp2_with fail
  refine (may_on H.out HD.out).mono ?_
  rintro e w1 ⟨rfl, rfl⟩
  go_wp2_with fail
  refine (named_is n _ HN.out).mono ?_
  rw [HNB.out]
  rintro e w2 ⟨rfl, hb2⟩
  have H2 := Hush.mk (H.out.below hb2)
  have T2 := Hush.mk (touch_b (p := p) (m := m) hb2)
  clear hb2
  go_wp2_with fail
  refine (there_no H2.out n HN.out HF.out).mono ?_
  rintro e w3 ⟨rfl, hb3⟩
  have H3 := Hush.mk (H2.out.below hb3)
  have T3 := Hush.mk (T2.out.trans (touch_b (p := p) (m := m) hb3))
  have c0 := H3.out.c0
  have hlen := H3.out.len 3
  clear hb3
  go_wp2_with fail
  refine (step_own H3.out 6 (by decide)).mono ?_
  rintro e w4 ⟨rfl, hi, ht⟩
  have e3 : stepE k 6 = 6 := by simp [stepE]
  have k3 : stepK k 6 = k := by simp [stepK]
  rw [k3] at hi
  rw [e3]
  have H4 := Hush.mk hi
  have T4 := Hush.mk (T3.out.trans (touch_p ht))
  clear hi ht e3 k3
  go_wp2
  go_ret
  exact ⟨rfl, H4.out, T4.out⟩
def createK (k : Dk) (n : ByteArray) : Dk := if stepE k 0 = 0 then { stepK k 0 with files := upd k.files n noFile } else stepK k 0
set_option maxRecDepth 100000 in
theorem create_ok {w : World} {p m : Nat} {k : Dk} (h : IsDisk w p m k) (n : ByteArray) (hn : n.size ≤ maxLen) (hd : k.down = false) (hu : fuseOk k.fuse) (hv : fuseOk k.fault) (hnb : isName n = true) (hf : find k.files n = none) (hl : k.files.length < 200) :
    Calls Try.prog 10 #[dp p, .string n] w (ActPost p m (createK k n) (stepE k 0) w) := by
  have H := Hush.mk h
  have HD := Hush.mk hd
  have HN := Hush.mk hn
  have HNB := Hush.mk hnb
  have HF := Hush.mk hf
  have HU := Hush.mk hu
  have HV := Hush.mk hv
  have HL := Hush.mk hl
  have hl2 : (k.files.length : Int) < 200 := by omega
  have hll : decide ((200 : Int) ≤ (k.files.length : Int)) = false := decide_eq_false (by omega)
  clear h hd hn hnb hf hl hu hv
  go_enter Try.func10, Try.ntmps10
  go_wp2_with fail
  refine (may_on H.out HD.out).mono ?_
  rintro e w1 ⟨rfl, rfl⟩
  go_wp2_with fail
  refine (named_is n _ HN.out).mono ?_
  rw [HNB.out]
  rintro e w2 ⟨rfl, hb2⟩
  have H2 := Hush.mk (H.out.below hb2)
  have T2 := Hush.mk (touch_b (p := p) (m := m) hb2)
  clear hb2
  go_wp2_with fail
  refine (there_no H2.out n HN.out HF.out).mono ?_
  rintro e w3 ⟨rfl, hb3⟩
  have H3 := Hush.mk (H2.out.below hb3)
  have T3 := Hush.mk (T2.out.trans (touch_b (p := p) (m := m) hb3))
  have c0 := H3.out.c0
  have hlen := H3.out.len 3
  clear hb3
  go_wp2_with fail
  refine (step_any H3.out 0 HU.out HV.out).mono ?_
  rintro e w4 ⟨rfl, hi, ht⟩
  have H4 := Hush.mk hi
  have T4 := Hush.mk (T3.out.trans (touch_p ht))
  have HK : Hush (createK k n = if stepE k 0 = 0 then { stepK k 0 with files := upd k.files n noFile } else stepK k 0) := ⟨rfl⟩
  have HFI := Hush.mk (step_files (k := k) 0)
  clear hi ht c0 hlen
  obtain ⟨r, hE⟩ : ∃ r, r = stepE k 0 := ⟨_, rfl⟩
  rw [← hE] at HK ⊢
  have HE := Hush.mk hE
  clear hE
  by_cases hr : r = 0
  · subst hr
    obtain ⟨w5, hst, hi5, hg5⟩ := H4.out.store n HN.out noFile (by rw [HFI.out.1]; have := HL.out; omega)
    have c0 := H4.out.c0
    have H5 := Hush.mk hi5
    have T5 := Hush.mk (T4.out.trans (Touch.of_grown hg5 (.inr rfl)))
    simp only [fileVal, noFile] at hst
    clear hi5 hg5
    have HI : IsDisk w5 p m (createK k n) := by
      rw [HK.out, if_pos rfl]
      have := H5.out
      rw [HFI.out.1] at this
      exact this
    have HI2 := Hush.mk HI
    clear HI
    go_wp2
    go_ret
    exact ⟨by rw [← HE.out]; rfl, HI2.out, T5.out⟩
  · have hrb : (r != 0) = true := by simpa using hr
    have HR := Hush.mk hr
    have HI2 : Hush (IsDisk w4 p m (createK k n)) := ⟨by rw [HK.out, if_neg HR.out]; exact H4.out⟩
    clear hr
    go_wp2
    go_ret
    exact ⟨by rw [← HE.out]; rfl, HI2.out, T4.out⟩
end Go.Proofs.Yteilnbnnhocciaa.D

/-! D7 -/
set_option linter.unusedVariables false
set_option linter.unusedSimpArgs false
namespace Go.Proofs.Yteilnbnnhocciaa.D
open Go.RowKit Go.Maps Go.ChangeMaps Go.MapKept Go.WideMaps Go.Proofs.YteilnbnnhocciaaW.PrintWords Go.Proofs.YteilnbnnhocciaaW.PrintLast Go.Proofs.YteilnbnnhocciaaW.PrintMore
attribute [local go_sem] max2_int min2_int max_two min_two max_three min_three max_four min_four
theorem there_any {w : World} {p m : Nat} {k : Dk} (h : IsDisk w p m k) (n : ByteArray) (hn : n.size ≤ maxLen) : Calls Try.prog 31 #[dp p, .string n] w fun e w' => e = .returned (.int .i64 (thereE k n)) ∧ Below w.heap.size w w' := by
  unfold thereE
  cases hf : find k.files n with
  | none => exact there_no h n hn hf
  | some f => exact there_yes h n hn f hf
def deleteK (k : Dk) (n : ByteArray) : Dk := if stepE k (thereE k n) = 0 then { stepK k (thereE k n) with files := gone k.files n } else stepK k (thereE k n)
theorem delete_off {w : World} {p m : Nat} {k : Dk} (h : IsDisk w p m k) (n : ByteArray) (hd : k.down = true) : Calls Try.prog 11 #[dp p, .string n] w (ActPost p m k 13 w) := by
  have H := Hush.mk h
  have HD := Hush.mk hd
  clear h hd
  go_enter Try.func11, Try.ntmps11
  go_wp2_with fail
  refine (may_off H.out HD.out).mono ?_
  rintro e w1 ⟨rfl, rfl⟩
  go_wp2
  go_ret
  exact ⟨rfl, H.out, Touch.refl _ _⟩
set_option maxRecDepth 100000 in
theorem delete_on {w : World} {p m : Nat} {k : Dk} (h : IsDisk w p m k) (n : ByteArray) (hn : n.size ≤ maxLen) (hd : k.down = false) (hu : fuseOk k.fuse) (hv : fuseOk k.fault) :
    Calls Try.prog 11 #[dp p, .string n] w (ActPost p m (deleteK k n) (stepE k (thereE k n)) w) := by
  have H := Hush.mk h
  have HD := Hush.mk hd
  have HN := Hush.mk hn
  have HU := Hush.mk hu
  have HV := Hush.mk hv
  clear h hd hn hu hv
  go_enter Try.func11, Try.ntmps11
  go_wp2_with fail
  refine (may_on H.out HD.out).mono ?_
  rintro e w1 ⟨rfl, rfl⟩
  go_wp2_with fail
  refine (there_any H.out n HN.out).mono ?_
  rintro e w3 ⟨rfl, hb3⟩
  have H3 := Hush.mk (H.out.below hb3)
  have T3 := Hush.mk (touch_b (p := p) (m := m) hb3)
  clear hb3
  go_wp2_with fail
  refine (step_any H3.out (thereE k n) HU.out HV.out).mono ?_
  rintro e w4 ⟨rfl, hi, ht⟩
  have H4 := Hush.mk hi
  have T4 := Hush.mk (T3.out.trans (touch_p ht))
  have HK : Hush (deleteK k n = if stepE k (thereE k n) = 0 then { stepK k (thereE k n) with files := gone k.files n } else stepK k (thereE k n)) := ⟨rfl⟩
  have HFI := Hush.mk (step_files (k := k) (thereE k n))
  clear hi ht
  obtain ⟨r, hE⟩ : ∃ r, r = stepE k (thereE k n) := ⟨_, rfl⟩
  rw [← hE] at HK ⊢
  have HE := Hush.mk hE
  clear hE
  by_cases hr : r = 0
  · subst hr
    obtain ⟨w5, hst, hi5, hg5⟩ := H4.out.drop n HN.out 0
    have c0 := H4.out.c0
    have T5 := Hush.mk (T4.out.trans (Touch.of_grown hg5 (.inr rfl)))
    have HI2 : Hush (IsDisk w5 p m (deleteK k n)) := ⟨by
      rw [HK.out, if_pos rfl]
      rw [HFI.out.1] at hi5
      exact hi5⟩
    clear hi5 hg5
    go_wp2
    go_ret
    exact ⟨by rw [← HE.out]; rfl, HI2.out, T5.out⟩
  · have hrb : (r != 0) = true := by simpa using hr
    have HI2 : Hush (IsDisk w4 p m (deleteK k n)) := ⟨by rw [HK.out, if_neg hr]; exact H4.out⟩
    clear hr
    go_wp2
    go_ret
    exact ⟨by rw [← HE.out]; rfl, HI2.out, T4.out⟩
end Go.Proofs.Yteilnbnnhocciaa.D

/-! D8 -/
set_option linter.unusedVariables false
set_option linter.unusedSimpArgs false
namespace Go.Proofs.Yteilnbnnhocciaa.D
open Go.RowKit Go.Maps Go.ChangeMaps Go.MapKept Go.WideMaps Go.Proofs.YteilnbnnhocciaaW.PrintWords Go.Proofs.YteilnbnnhocciaaW.PrintLast Go.Proofs.YteilnbnnhocciaaW.PrintMore
attribute [local go_sem] max2_int min2_int max_two min_two max_three min_three max_four min_four
def looseF (f : FileV) : Int := wrap64 ((f.s.size : Int) - f.sure)
def looseN (k : Dk) (n : ByteArray) : Int := looseF ((find k.files n).getD noFile)
theorem loose_on {w : World} {p m : Nat} {k : Dk} (h : IsDisk w p m k) (n : ByteArray) (hn : n.size ≤ maxLen) : Calls Try.prog 15 #[dp p, .string n] w fun e w' => e = .returned (.int .i64 (looseN k n)) ∧ Below w.heap.size w w' := by
  have c := h.c0
  have hl := h.look n hn
  unfold looseN looseF
  generalize (find k.files n).getD noFile = f at hl ⊢
  simp only [fileVal] at hl
  have H := Hush.mk h
  clear h hn
  go_enter Try.func15, Try.ntmps15
  go_wp2
  go_ret
  exact ⟨rfl, (Below.refl _ _).alloc (Nat.le_refl _) _⟩
theorem steps_on {w : World} {p m : Nat} {k : Dk} (h : IsDisk w p m k) : Calls Try.prog 23 #[dp p] w fun e w' => e = .returned (.int .i64 k.steps) ∧ w' = w := by
  have c := h.c2
  have H := Hush.mk h
  clear h
  go_enter Try.func23, Try.ntmps23
  go_wp2
  go_ret
  exact ⟨rfl, rfl⟩
theorem down_on {w : World} {p m : Nat} {k : Dk} (h : IsDisk w p m k) : Calls Try.prog 24 #[dp p] w fun e w' => e = .returned (.bool k.down) ∧ w' = w := by
  have c := h.c5
  have H := Hush.mk h
  clear h
  go_enter Try.func24, Try.ntmps24
  go_wp2
  go_ret
  exact ⟨rfl, rfl⟩
def SetPost (p m : Nat) (k : Dk) (w : World) (e : Ending) (w' : World) : Prop := e = .returned (.tuple #[]) ∧ IsDisk w' p m k ∧ Touch (own2 p m) w w'
def atLeast (x : Int) : Int := if -1 ≤ x then x else -1
theorem fuse_on {w : World} {p m : Nat} {k : Dk} (h : IsDisk w p m k) (x : Int) : Calls Try.prog 18 #[dp p, .int .i64 x] w (SetPost p m { k with fuse := atLeast x } w) := by
  have c := h.c3
  have f := h.fr 3
  have H := Hush.mk h
  clear h
  unfold atLeast
  by_cases hx : -1 ≤ x
  · rw [if_pos hx]
    go_enter Try.func18, Try.ntmps18
    go_wp2
    all_goals first | (exfalso; omega) | skip
    all_goals refine bodyPost_end (v := .tuple #[]) (by simp [results, Try.results18, go_sem]) rfl ⟨rfl, H.out.put 3 _ (by simp [cells]) rfl, Touch.setCell _ _ _ (.inl rfl)⟩
  · rw [if_neg hx]
    go_enter Try.func18, Try.ntmps18
    go_wp2
    all_goals first | (exfalso; omega) | skip
    all_goals refine bodyPost_end (v := .tuple #[]) (by simp [results, Try.results18, go_sem]) rfl ⟨rfl, H.out.put 3 _ (by simp [cells]) rfl, Touch.setCell _ _ _ (.inl rfl)⟩
theorem fault_on {w : World} {p m : Nat} {k : Dk} (h : IsDisk w p m k) (x : Int) : Calls Try.prog 19 #[dp p, .int .i64 x] w (SetPost p m { k with fault := atLeast x } w) := by
  have c := h.c4
  have f := h.fr 4
  have H := Hush.mk h
  clear h
  unfold atLeast
  by_cases hx : -1 ≤ x
  · rw [if_pos hx]
    go_enter Try.func19, Try.ntmps19
    go_wp2
    all_goals first | (exfalso; omega) | skip
    all_goals refine bodyPost_end (v := .tuple #[]) (by simp [results, Try.results19, go_sem]) rfl ⟨rfl, H.out.put 4 _ (by simp [cells]) rfl, Touch.setCell _ _ _ (.inl rfl)⟩
  · rw [if_neg hx]
    go_enter Try.func19, Try.ntmps19
    go_wp2
    all_goals first | (exfalso; omega) | skip
    all_goals refine bodyPost_end (v := .tuple #[]) (by simp [results, Try.results19, go_sem]) rfl ⟨rfl, H.out.put 4 _ (by simp [cells]) rfl, Touch.setCell _ _ _ (.inl rfl)⟩
def inRoom (x : Int) : Int := if x < 0 then 0 else if 16777216 < x then 16777216 else x
theorem room_on {w : World} {p m : Nat} {k : Dk} (h : IsDisk w p m k) (x : Int) : Calls Try.prog 20 #[dp p, .int .i64 x] w (SetPost p m { k with room := inRoom x } w) := by
  have c := h.c1
  have f := h.fr 1
  have H := Hush.mk h
  clear h
  unfold inRoom
  by_cases hx : x < 0
  · rw [if_pos hx]
    go_enter Try.func20, Try.ntmps20
    go_wp2
    all_goals first | (exfalso; omega) | skip
    all_goals refine bodyPost_end (v := .tuple #[]) (by simp [results, Try.results20, go_sem]) rfl ⟨rfl, H.out.put 1 _ (by simp [cells]) rfl, Touch.setCell _ _ _ (.inl rfl)⟩
  · rw [if_neg hx]
    by_cases hy : 16777216 < x
    · rw [if_pos hy]
      go_enter Try.func20, Try.ntmps20
      go_wp2
      all_goals first | (exfalso; omega) | skip
      all_goals refine bodyPost_end (v := .tuple #[]) (by simp [results, Try.results20, go_sem]) rfl ⟨rfl, H.out.put 1 _ (by simp [cells]) rfl, Touch.setCell _ _ _ (.inl rfl)⟩
    · rw [if_neg hy]
      go_enter Try.func20, Try.ntmps20
      go_wp2
      all_goals first | (exfalso; omega) | skip
      all_goals refine bodyPost_end (v := .tuple #[]) (by simp [results, Try.results20, go_sem]) rfl ⟨rfl, H.out.put 1 _ (by simp [cells]) rfl, Touch.setCell _ _ _ (.inl rfl)⟩
end Go.Proofs.Yteilnbnnhocciaa.D

/-! D12 -/
set_option linter.unusedVariables false
set_option linter.unusedSimpArgs false
namespace Go.Proofs.Yteilnbnnhocciaa.D
open Go.RowKit Go.Maps
def names (l : List (ByteArray × FileV)) : List (List UInt8) := l.map fun x => x.1.data.toList
theorem mem_names {l : List (ByteArray × FileV)} (x : List UInt8) : x ∈ names l ↔ (⟨x.toArray⟩ : ByteArray) ∈ l.map (·.1) := by
  unfold names
  rw [List.mem_map, List.mem_map]
  constructor
  · rintro ⟨p, hp, rfl⟩
    exact ⟨p, hp, by simp⟩
  · rintro ⟨p, hp, e⟩
    exact ⟨p, hp, by rw [e]⟩
theorem rep_keys {w : World} {m n : Nat} {D : DataW Unit} {l : List (ByteArray × FileV)} (hown : w.ownsMap Try.prog 9 fileElem m n D) (h : Rep D l) : (names l).Perm (strKeys D) := by
  obtain ⟨es, hD, hpw, _⟩ := hown.entries law53
  obtain ⟨es', hD', hko⟩ := hown.keysOf
  obtain rfl : es = es' := by rw [hD] at hD'; simpa using hD'
  subst hD
  refine perm_strKeys hpw (fun p hp => ?_) ?_ fun x => ?_
  · obtain ⟨v, hv⟩ := hko p hp
    obtain ⟨x, _, hx, _⟩ := Maps.keyOf_str Try.underlying9 hv
    exact ⟨x, hx⟩
  · have hn := h.nodup
    unfold names
    rw [show (l.map fun x => x.1.data.toList) = (l.map (·.1)).map (fun b => b.data.toList) from by rw [List.map_map]; rfl]
    refine List.pairwise_map.2 (hn.imp fun {a b} hne e => hne (bytes_inj e))
  · have hk : keyLit (⟨x.toArray⟩ : ByteArray) = .string x := by simp [keyLit]
    rw [mem_names, ← hk, h.has]
    have := @find_none l ⟨x.toArray⟩
    cases hf : find l ⟨x.toArray⟩ with
    | none => simp [this.1 hf]
    | some f =>
      simp only [Option.isSome_some, iff_true]
      refine Classical.byContradiction fun hne => ?_
      rw [this.2 hne] at hf
      cases hf
end Go.Proofs.Yteilnbnnhocciaa.D

/-! D13 -/
set_option linter.unusedVariables false
set_option linter.unusedSimpArgs false
namespace Go.Proofs.Yteilnbnnhocciaa.D
open Go.RowKit Go.Maps Go.ChangeMaps Go.MapKept Go.WideMaps Go.Sort
def listed (l : List (ByteArray × FileV)) : List (List UInt8) := (names l).mergeSort leB
def ListPost (l : List (ByteArray × FileV)) (w : World) (e : Ending) (w' : World) : Prop := ∃ v : Value, e = .returned v ∧ w'.ownsRow w.heap.size 9 1 v l.length ((listed l).map encStr) ∧ (v = .slice none 0 0 ↔ l = []) ∧ Below w.heap.size w w'
theorem list_on {w : World} {p m : Nat} {k : Dk} (h : IsDisk w p m k) (hf : k.files.length ≤ 1000) : Calls Try.prog 12 #[dp p] w (ListPost k.files w) := by
  have c := h.c0
  obtain ⟨D, n, hown, hn, hr⟩ := h.map
  have hs : Maps.size D = k.files.length := hr.size
  have hp := rep_keys hown hr
  have H : Hush (w.ownsMap Try.prog 9 fileElem m n D ∧ Maps.size D = k.files.length ∧ (names k.files).Perm (strKeys D)) := ⟨hown, hs, hp⟩
  clear h hown hr hs hp hn
  go_enter Try.func12, Try.ntmps12
  go_wp2_with fail
  refine (callsIn_wide.1 (Try.maps_Keys_34 (some m) w)).mono ?_
  rintro e w1 ⟨rfl, rfl⟩
  go_wp2_with fail
  refine (callsIn_wide.1 (Try.slices_Sorted_keys_33_34 m n D fileElem w H.out.1 (by have := H.out.2.1; unfold maxLen; omega) (by have := H.out.2.1; omega))).mono ?_
  rintro e w2 ⟨v, ss, rfl, hss, ho, hv, hb⟩
  have hlen : ss.length = k.files.length := by
    have := (hss.trans H.out.2.2.symm).length_eq
    rw [this]; simp [names]
  have hst : ss.mergeSort (fun x y => decide (x ≤ y)) = listed k.files := mergeSort_of_perm (hss.trans H.out.2.2.symm)
  have hnil : ss = [] ↔ k.files = [] := by rw [← List.length_eq_zero_iff, hlen, List.length_eq_zero_iff]
  rw [hlen, hst] at ho
  rw [hnil] at hv
  have hsz : w.heap.size ≤ (w.alloc (.cells #[.map (some m)] 53)).heap.size := by simp
  have hb' : Below w.heap.size (w.alloc (.cells #[.map (some m)] 53)) w2 := Below.mono hb hsz
  have HP : Hush (w2.ownsRow w.heap.size 9 1 v k.files.length ((listed k.files).map encStr) ∧ (v = .slice none 0 0 ↔ k.files = []) ∧ Below w.heap.size w w2) := ⟨⟨ho.1, ho.2.imp id fun ⟨g, cap, cur, a, b, c⟩ => ⟨g, cap, cur, a, Nat.le_trans hsz b, c⟩⟩, hv, ((Below.refl _ w).alloc (Nat.le_refl _) _).trans hb'⟩
  clear ho hv hb hb' hst hlen hss hnil
  go_wp2
  go_ret
  exact ⟨v, rfl, HP.out⟩
end Go.Proofs.Yteilnbnnhocciaa.D

/-! D14 -/
set_option linter.unusedVariables false
set_option linter.unusedSimpArgs false
namespace Go.Proofs.Yteilnbnnhocciaa.D
open Go.RowKit Go.Maps Go.ChangeMaps Go.MapKept Go.WideMaps Go.Proofs.YteilnbnnhocciaaW.PrintWords Go.Proofs.YteilnbnnhocciaaW.PrintLast Go.Proofs.YteilnbnnhocciaaW.PrintMore
attribute [local go_sem] max2_int min2_int max_two min_two max_three min_three max_four min_four
theorem sync_off {w : World} {p m : Nat} {k : Dk} (h : IsDisk w p m k) (n : ByteArray) (hd : k.down = true) : Calls Try.prog 14 #[dp p, .string n] w (ActPost p m k 13 w) := by
  have H := Hush.mk h
  have HD := Hush.mk hd
  clear h hd
  go_enter Try.func14, Try.ntmps14
  go_wp2_with fail
  refine (may_off H.out HD.out).mono ?_
  rintro e w1 ⟨rfl, rfl⟩
  go_wp2
  go_ret
  exact ⟨rfl, H.out, Touch.refl _ _⟩
def syncF (f : FileV) : FileV := ⟨f.s, (f.s.size : Int)⟩
def syncK (k : Dk) (n : ByteArray) : Dk := if stepE k (thereE k n) = 0 then { stepK k (thereE k n) with files := upd k.files n (syncF ((find k.files n).getD noFile)) } else stepK k (thereE k n)
set_option maxRecDepth 100000 in
theorem sync_on {w : World} {p m : Nat} {k : Dk} (h : IsDisk w p m k) (n : ByteArray) (hn : n.size ≤ maxLen) (hd : k.down = false) (hu : fuseOk k.fuse) (hv : fuseOk k.fault) (hl : k.files.length ≤ 200) :
    Calls Try.prog 14 #[dp p, .string n] w (ActPost p m (syncK k n) (stepE k (thereE k n)) w) := by
  have H := Hush.mk h
  have HD := Hush.mk hd
  have HN := Hush.mk hn
  have HU := Hush.mk hu
  have HV := Hush.mk hv
  have HL := Hush.mk hl
  clear h hd hn hu hv hl
  go_enter Try.func14, Try.ntmps14
  go_wp2_with fail
  refine (may_on H.out HD.out).mono ?_
  rintro e w1 ⟨rfl, rfl⟩
  go_wp2_with fail
  refine (there_any H.out n HN.out).mono ?_
  rintro e w3 ⟨rfl, hb3⟩
  have H3 := Hush.mk (H.out.below hb3)
  have T3 := Hush.mk (touch_b (p := p) (m := m) hb3)
  clear hb3
  go_wp2_with fail
  refine (step_any H3.out (thereE k n) HU.out HV.out).mono ?_
  rintro e w4 ⟨rfl, hi, ht⟩
  have H4 := Hush.mk hi
  have T4 := Hush.mk (T3.out.trans (touch_p ht))
  have HK : Hush (syncK k n = if stepE k (thereE k n) = 0 then { stepK k (thereE k n) with files := upd k.files n (syncF ((find k.files n).getD noFile)) } else stepK k (thereE k n)) := ⟨rfl⟩
  have HFI := Hush.mk (step_files (k := k) (thereE k n))
  clear hi ht
  obtain ⟨r, hE⟩ : ∃ r, r = stepE k (thereE k n) := ⟨_, rfl⟩
  rw [← hE] at HK ⊢
  have HE := Hush.mk hE
  clear hE
  by_cases hr : r = 0
  · subst hr
    have hlk := H4.out.look n HN.out
    rw [HFI.out.1] at hlk
    generalize (find k.files n).getD noFile = f at hlk HK
    simp only [fileVal] at hlk
    have c0 := H4.out.c0
    go_wp2
    have H5 := H4.out.alloc (.cells #[.string f.s, .int .i64 (f.s.size : Nat)] 60)
    have T5 : Touch (own2 p m) w1 (w4.alloc (.cells #[.string f.s, .int .i64 (f.s.size : Nat)] 60)) := T4.out.trans (Touch.alloc _ _)
    have hb0 : (w4.alloc (.cells #[.string f.s, .int .i64 (f.s.size : Nat)] 60)).heap[w4.heap.size]? = some (.cells #[.string f.s, .int .i64 (f.s.size : Nat)] 60 (0, 0)) := World.alloc_heap_new _ _
    generalize w4.alloc (.cells #[.string f.s, .int .i64 (f.s.size : Nat)] 60) = w5 at H5 T5 hb0 ⊢
    obtain ⟨w6, hst, hi6, hg6⟩ := H5.drew.store n HN.out (syncF f) (by rw [HFI.out.1]; have := HL.out; omega)
    have d0 := H5.drew.c0
    have hb1 : w5.drew.heap[w4.heap.size]? = some (.cells #[.string f.s, .int .i64 (f.s.size : Nat)] 60 (0, 0)) := hb0
    have b0 : w5.drew.cell? ⟨w4.heap.size, 0, none⟩ = some (.string f.s) := by simp [World.cell?, hb1]
    have b1 : w5.drew.cell? ⟨w4.heap.size, 1, none⟩ = some (.int .i64 (f.s.size : Nat)) := by simp [World.cell?, hb1]
    simp only [fileVal, syncF] at hst
    have HX : Hush (IsDisk w6 p m (syncK k n) ∧ Touch (own2 p m) w1 w6) := ⟨by
      rw [HK.out, if_pos trivial]
      rw [HFI.out.1] at hi6
      exact hi6, T5.trans ((Touch.drew _).trans (Touch.of_grown hg6 (.inr rfl)))⟩
    clear c0 H5 T5 hb0 hb1 hi6 hg6 hlk
    go_still_tail 6, (by kernel_rfl)
    change wpList _ _ _ _ _ w5.drew
    generalize w5.drew = w7 at d0 b0 b1 hst ⊢
    go_wp2
    go_ret
    exact ⟨by rw [← HE.out]; rfl, HX.out.1, HX.out.2⟩
  · have hrb : (r != 0) = true := by simpa using hr
    have HI2 : Hush (IsDisk w4 p m (syncK k n)) := ⟨by rw [HK.out, if_neg hr]; exact H4.out⟩
    clear hr
    go_wp2
    go_ret
    exact ⟨by rw [← HE.out]; rfl, HI2.out, T4.out⟩
end Go.Proofs.Yteilnbnnhocciaa.D

/-! D20 -/
set_option linter.unusedVariables false
set_option linter.unusedSimpArgs false
namespace Go.Proofs.Yteilnbnnhocciaa.D
open Go.RowKit Go.Shelf Go.Proofs
theorem bad_high (r : Nat) (h : 128 ≤ r) : badRune r = true := by
  unfold badRune
  simp only [Bool.not_eq_true', Bool.or_eq_false_iff, Bool.and_eq_false_iff, decide_eq_false_iff_not]
  omega
theorem decode_high (s : ByteArray) (i : Nat) (h : 128 ≤ (s.get! i).toNat) : 128 ≤ (Utf8.decode s i).1 := by
  unfold Utf8.decode
  simp only [Nat.add_zero, Utf8.runeError]
  rw [if_neg (by omega)]
  split
  · split
    · rename_i h2; exact h2
    · decide
  · split
    · split
      · rename_i h2; simp only [Bool.and_eq_true, decide_eq_true_eq] at h2; have := h2.1; omega
      · decide
    · split
      · split
        · rename_i h2; simp only [Bool.and_eq_true, decide_eq_true_eq] at h2; have := h2.1; omega
        · decide
      · decide
theorem idx_bad_from (s : ByteArray) : ∀ (f pos : Nat), s.size ≤ pos + f → decide (0 ≤ Lib.idxFuncFrom badRune true s f pos) = (s.data.toList.drop pos).any fun b => badRune b.toNat
  | 0, pos, h => by
    have : s.data.toList.drop pos = [] := List.drop_eq_nil_of_le (by simpa using h)
    rw [this]
    rfl
  | f + 1, pos, h => by
    unfold Lib.idxFuncFrom
    by_cases hp : pos < s.size
    · rw [if_pos hp]
      have hd : s.data.toList.drop pos = s[pos] :: s.data.toList.drop (pos + 1) := by
        rw [List.drop_eq_getElem_cons (by simpa using hp)]
        rfl
      have hg : s.get! pos = s[pos] := by
        rw [ByteArray.get!, ByteArray.getElem_eq_getElem_data]
        exact getElem!_pos s.data pos hp
      rw [hd, List.any_cons]
      by_cases ha : (s[pos]'hp).toNat < 128
      · rw [decode_ascii s pos hp ha]
        simp only
        by_cases hb : badRune (s[pos]'hp).toNat = true
        · rw [if_pos hb, hb]
          simp
        · rw [if_neg hb, idx_bad_from s f (pos + 1) (by omega)]
          rw [Bool.not_eq_true] at hb
          rw [hb]
          rfl
      · have h1 := bad_high _ (decode_high s pos (by rw [hg]; omega))
        rw [if_pos h1, bad_high _ (by omega)]
        simp
    · rw [if_neg hp]
      have : s.data.toList.drop pos = [] := List.drop_eq_nil_of_le (by simp; omega)
      rw [this]
      rfl
theorem idx_bad (s : ByteArray) : decide (0 ≤ Lib.idxFunc badRune true s) = s.data.toList.any fun b => badRune b.toNat := idx_bad_from s s.size 0 (by omega)
theorem isName_bytes (n : ByteArray) : isName n = (decide (1 ≤ n.size) && decide (n.size ≤ 32) && !(n.data.toList.any fun b => badRune b.toNat)) := by
  unfold isName
  rw [idx_bad, ByteArray.toList_eq]
  cases hl : n.data.toList with
  | nil =>
    have : n.size = 0 := by have := congrArg List.length hl; simpa using this
    rw [this]
    rfl
  | cons b l =>
    have : 1 ≤ n.size := by have := congrArg List.length hl; simp at this; omega
    rw [decide_eq_true this]
    simp [Bool.and_assoc]
theorem isName_size {n : ByteArray} (h : isName n = true) : n.size ≤ 32 := by
  rw [isName_bytes] at h
  simp only [Bool.and_eq_true, decide_eq_true_eq] at h
  exact h.1.2
end Go.Proofs.Yteilnbnnhocciaa.D

/-! D21 -/
set_option linter.unusedVariables false
set_option linter.unusedSimpArgs false
namespace Go.Proofs.Yteilnbnnhocciaa.D
open Go.RowKit Go.Maps Go.Sort
abbrev Files := List (ByteArray × FileV)
theorem find_mem {l : Files} (h : (l.map (·.1)).Nodup) {n : ByteArray} {f : FileV} : find l n = some f ↔ (n, f) ∈ l := by
  induction l with
  | nil => simp [find]
  | cons x l ih =>
    rw [List.map_cons, List.nodup_cons] at h
    rw [find_cons, List.mem_cons]
    by_cases e : x.1 = n
    · rw [if_pos e]
      constructor
      · intro h2; cases h2; subst e; exact .inl rfl
      · rintro (h2 | h2)
        · rw [← h2]
        · exact absurd (List.mem_map.2 ⟨_, h2, e.symm⟩) h.1
    · rw [if_neg e, ih h.2]
      constructor
      · exact .inr
      · rintro (h2 | h2)
        · exact absurd (by rw [← h2]) e
        · exact h2
theorem find_perm {l l' : Files} (h : (l.map (·.1)).Nodup) (hp : l.Perm l') (n : ByteArray) : find l n = find l' n := by
  have h' : (l'.map (·.1)).Nodup := (hp.map _).nodup h
  cases hf : find l n with
  | some f => exact ((find_mem h').2 (hp.mem_iff.1 ((find_mem h).1 hf))).symm
  | none =>
    cases hf' : find l' n with
    | none => rfl
    | some f => rw [(find_mem h).2 (hp.mem_iff.2 ((find_mem h').1 hf'))] at hf; cases hf
theorem rep_perm {D : DataW Unit} {l l' : Files} (h : Rep D l) (hp : l.Perm l') : Rep D l' :=
  ⟨h.tidy, (hp.map _).nodup h.nodup, by rw [h.size, hp.length_eq], fun n => by rw [h.has, find_perm h.nodup hp], fun n f hf => h.at_ n f (by rw [find_perm h.nodup hp]; exact hf), h.only⟩
def usedN (l : Files) : Nat := (l.map fun x => x.2.s.size).sum
theorem usedN_perm {l l' : Files} (hp : l.Perm l') : usedN l = usedN l' := (hp.map _).sum_nat
theorem usedN_cons (x : ByteArray × FileV) (l : Files) : usedN (x :: l) = x.2.s.size + usedN l := by simp [usedN]
theorem usedN_app (a b : Files) : usedN (a ++ b) = usedN a + usedN b := by simp [usedN]
theorem usedN_mem {l : Files} {x : ByteArray × FileV} (h : x ∈ l) : x.2.s.size ≤ usedN l := by
  induction l with
  | nil => cases h
  | cons y l ih =>
    rw [usedN_cons]
    rcases List.mem_cons.1 h with rfl | h
    · omega
    · have := ih h; omega
theorem usedN_gone {l : Files} (h : (l.map (·.1)).Nodup) (n : ByteArray) : usedN (gone l n) + ((find l n).getD noFile).s.size = usedN l := by
  induction l with
  | nil => rfl
  | cons x l ih =>
    rw [List.map_cons, List.nodup_cons] at h
    have ih := ih h.2
    unfold gone at ih ⊢
    rw [find_cons, usedN_cons]
    by_cases hx : x.1 = n
    · rw [List.filter_cons_of_neg (by simpa using hx), if_pos hx]
      have hn : find l n = none := find_none.2 (by rw [← hx]; exact h.1)
      rw [hn] at ih
      have hz : ((none : Option FileV).getD noFile).s.size = 0 := rfl
      simp only [Option.getD_some]
      omega
    · rw [List.filter_cons_of_pos (by simpa using hx), if_neg hx, usedN_cons]
      omega
theorem gone_none {l : Files} {n : ByteArray} (h : find l n = none) : gone l n = l := by
  unfold gone
  rw [List.filter_eq_self]
  intro x hx
  have := find_none.1 h
  simp only [ne_eq, decide_eq_true_eq]
  intro e
  exact this (List.mem_map.2 ⟨x, hx, e⟩)
theorem map_none {l : Files} {n : ByteArray} (f : FileV) (h : find l n = none) : (l.map fun x => if x.1 = n then (n, f) else x) = l := by
  have hn := find_none.1 h
  rw [List.map_congr_left (g := id) fun x hx => ?_, List.map_id]
  rw [if_neg fun e => hn (List.mem_map.2 ⟨x, hx, e⟩)]
  rfl
theorem map_perm {l : Files} (h : (l.map (·.1)).Nodup) {n : ByteArray} (f : FileV) (hs : (find l n).isSome) : (l.map fun x => if x.1 = n then (n, f) else x).Perm (gone l n ++ [(n, f)]) := by
  induction l with
  | nil => simp [find] at hs
  | cons x l ih =>
    rw [List.map_cons, List.nodup_cons] at h
    rw [find_cons] at hs
    rw [List.map_cons]
    unfold gone at ih ⊢
    by_cases hx : x.1 = n
    · have hn : find l n = none := find_none.2 (by rw [← hx]; exact h.1)
      rw [List.filter_cons_of_neg (by simpa using hx), if_pos hx, map_none f hn]
      have := gone_none hn
      unfold gone at this
      rw [this]
      exact (List.perm_append_singleton _ _).symm
    · rw [if_neg hx] at hs
      rw [List.filter_cons_of_pos (by simpa using hx), if_neg hx, List.cons_append]
      exact (ih h.2 hs).cons x
theorem upd_perm {l : Files} (h : (l.map (·.1)).Nodup) (n : ByteArray) (f : FileV) : (upd l n f).Perm (gone l n ++ [(n, f)]) := by
  unfold upd
  by_cases hs : (find l n).isSome
  · rw [if_pos hs]
    exact map_perm h f hs
  · rw [if_neg hs, gone_none (by simpa using hs)]
theorem usedN_upd {l : Files} (h : (l.map (·.1)).Nodup) (n : ByteArray) (f : FileV) : usedN (upd l n f) + ((find l n).getD noFile).s.size = usedN l + f.s.size := by
  have h1 := usedN_gone h n
  have h2 : usedN [(n, f)] = f.s.size := by simp [usedN]
  rw [usedN_perm (upd_perm h n f), usedN_app, h2]
  omega
def usedOf (l : Files) (ns : List (List UInt8)) : Nat := (ns.map fun x => ((find l ⟨x.toArray⟩).getD noFile).s.size).sum
theorem usedOf_perm {l : Files} {a b : List (List UInt8)} (h : a.Perm b) : usedOf l a = usedOf l b := (h.map _).sum_nat
theorem usedOf_listed {l : Files} (h : (l.map (·.1)).Nodup) : usedOf l (listed l) = usedN l := by
  have hp : (listed l).Perm (names l) := List.mergeSort_perm _ _
  rw [usedOf_perm hp]
  unfold usedOf usedN names
  rw [List.map_map]
  congr 1
  refine List.map_congr_left fun x hx => ?_
  have := (find_mem h).2 (show (x.1, x.2) ∈ l from hx)
  show ((find l ⟨x.1.data.toList.toArray⟩).getD noFile).s.size = _
  rw [show (⟨x.1.data.toList.toArray⟩ : ByteArray) = x.1 from by simp, this]
  rfl
theorem usedOf_take {l : Files} {ns : List (List UInt8)} (i : Nat) : usedOf l (ns.take i) ≤ usedOf l ns := by
  have h : usedOf l ns = usedOf l (ns.take i) + usedOf l (ns.drop i) := by
    unfold usedOf
    rw [← List.sum_append_nat, ← List.map_append, List.take_append_drop]
  omega
theorem usedOf_snoc {l : Files} (a : List (List UInt8)) (x : List UInt8) : usedOf l (a ++ [x]) = usedOf l a + ((find l ⟨x.toArray⟩).getD noFile).s.size := by
  unfold usedOf
  rw [List.map_append, List.sum_append_nat]
  simp
structure Good (k : Dk) : Prop where
  nodup : (k.files.map (·.1)).Nodup
  few : k.files.length ≤ 200
  names : ∀ x ∈ k.files, isName x.1 = true
  used : usedN k.files ≤ 16777216
  sure : ∀ x ∈ k.files, 0 ≤ x.2.sure ∧ x.2.sure ≤ (x.2.s.size : Int)
  fuse : fuseOk k.fuse
  fault : fuseOk k.fault
  room : 0 ≤ k.room ∧ k.room ≤ 16777216
theorem mem_listed {l : Files} {x : List UInt8} : x ∈ listed l ↔ (⟨x.toArray⟩ : ByteArray) ∈ l.map (·.1) := by
  rw [← mem_names]
  exact (List.mergeSort_perm _ _).mem_iff
theorem listed_length (l : Files) : (listed l).length = l.length := by
  rw [listed, List.length_mergeSort]
  simp [names]
theorem mem_upd {l : Files} {n : ByteArray} {f : FileV} {x : ByteArray × FileV} (h : x ∈ upd l n f) : x = (n, f) ∨ x ∈ l := by
  unfold upd at h
  split at h
  · rw [List.mem_map] at h
    obtain ⟨y, hy, e⟩ := h
    split at e
    · exact .inl e.symm
    · exact .inr (e ▸ hy)
  · rw [List.mem_append, List.mem_singleton] at h
    exact h.symm
theorem mem_gone {l : Files} {n : ByteArray} {x : ByteArray × FileV} (h : x ∈ gone l n) : x ∈ l := (List.mem_filter.1 h).1
theorem Good.find {k : Dk} (h : Good k) {n : ByteArray} {f : FileV} (hf : find k.files n = some f) : isName n = true ∧ f.s.size ≤ 16777216 ∧ 0 ≤ f.sure ∧ f.sure ≤ (f.s.size : Int) := by
  have hm := (find_mem h.nodup).1 hf
  exact ⟨h.names _ hm, Nat.le_trans (usedN_mem hm) h.used, h.sure _ hm⟩
theorem Good.getD {k : Dk} (h : Good k) (n : ByteArray) : ((D.find k.files n).getD noFile).s.size ≤ 16777216 ∧ 0 ≤ ((D.find k.files n).getD noFile).sure ∧ ((D.find k.files n).getD noFile).sure ≤ (((D.find k.files n).getD noFile).s.size : Int) := by
  cases hf : D.find k.files n with
  | none => exact ⟨by decide, by decide, by decide⟩
  | some f => exact (h.find hf).2
theorem Good.step {k : Dk} (h : Good k) (own : Int) : Good (stepK k own) := by
  obtain ⟨h1, h2⟩ := step_files (k := k) own
  obtain ⟨h3, h4⟩ := step_fuseOk own h.fuse h.fault
  exact ⟨by rw [h1]; exact h.nodup, by rw [h1]; exact h.few, by rw [h1]; exact h.names, by rw [h1]; exact h.used, by rw [h1]; exact h.sure, h3, h4, by rw [h2]; exact h.room⟩
theorem Good.upd {k : Dk} (h : Good k) (n : ByteArray) (f : FileV) (hn : isName n = true) (hl : (D.find k.files n).isSome ∨ k.files.length < 200) (hu : usedN (D.upd k.files n f) ≤ 16777216) (hs : 0 ≤ f.sure ∧ f.sure ≤ (f.s.size : Int)) : Good { k with files := D.upd k.files n f } := by
  refine ⟨upd_nodup h.nodup n f, ?_, fun x hx => ?_, hu, fun x hx => ?_, h.fuse, h.fault, h.room⟩
  · show (D.upd k.files n f).length ≤ 200
    rw [upd_length]
    have := h.few
    split
    · exact this
    · rcases hl with hl | hl
      · contradiction
      · omega
  · rcases mem_upd hx with rfl | hx
    · exact hn
    · exact h.names x hx
  · rcases mem_upd hx with rfl | hx
    · exact hs
    · exact h.sure x hx
theorem Good.gone {k : Dk} (h : Good k) (n : ByteArray) : Good { k with files := D.gone k.files n } := by
  refine ⟨gone_nodup h.nodup n, Nat.le_trans (List.length_filter_le _ _) h.few, fun x hx => h.names x (mem_gone hx), ?_, fun x hx => h.sure x (mem_gone hx), h.fuse, h.fault, h.room⟩
  have := usedN_gone h.nodup n
  have := h.used
  show usedN (D.gone k.files n) ≤ 16777216
  omega
end Go.Proofs.Yteilnbnnhocciaa.D

/-! D15 -/
set_option linter.unusedVariables false
set_option linter.unusedSimpArgs false
namespace Go.Proofs.Yteilnbnnhocciaa.D
open Go.RowKit Go.Maps Go.ChangeMaps Go.MapKept Go.WideMaps Go.Sort
theorem Good.lenName {k : Dk} (h : Good k) {x : List UInt8} (hx : x ∈ listed k.files) : (⟨x.toArray⟩ : ByteArray).size ≤ 32 := by
  rw [mem_listed, List.mem_map] at hx
  obtain ⟨y, hy, e⟩ := hx
  rw [← e]
  exact isName_size (h.names y hy)
theorem run_field60 (a : ByteArray) (b : Int) (W : World) : (Instr.field 60 (.agg #[.string a, .int .i64 b]) 0).run Try.prog W = .ok (.string a) W := by kernel_rfl
attribute [local go_sem ↓] run_field60
set_option maxRecDepth 100000 in
theorem used_on {w : World} {p m : Nat} {k : Dk} (h : IsDisk w p m k) (g : Good k) : Calls Try.prog 22 #[dp p] w fun e w' => e = .returned (.int .i64 (usedN k.files : Nat)) ∧ Below w.heap.size w w' := by
  have H := Hush.mk h
  have HG := Hush.mk g
  clear h g
  go_enter Try.func22, Try.ntmps22
  go_wp2_with fail
  refine (list_on H.out (by have := HG.out.few; omega)).mono ?_
  rintro e w1 ⟨v, rfl, ho, hv, hb⟩
  have H1 := Hush.mk (H.out.below hb)
  have HB := Hush.mk hb
  have c0 := H1.out.c0
  clear hb
  by_cases he : k.files = []
  · obtain rfl := hv.2 he
    have HU : Hush (usedN k.files = 0) := ⟨by rw [he]; rfl⟩
    clear he hv ho
    go_wp2
    refine wp_loop_rounds 1 ?_
    rw [rounds_succ]
    go_wp2
    go_ret
    exact ⟨by rw [HU.out]; rfl, HB.out⟩
  · obtain ⟨hlen, hv' | ⟨gb, cap, cur, rfl, hbase, hgb, hcap, hmax, hsz, htk⟩⟩ := ho
    · exact absurd (hv.1 hv'.1) he
    · have hL : k.files.length ≤ 200 := HG.out.few
      have hC : ∀ i, i < k.files.length → w1.cell? ((⟨gb, 0, none⟩ : Addr).add i) = some (encStr ((listed k.files).getD i [])) := by
        intro i hi
        have ho2 : w1.ownsRow w.heap.size 9 1 (.slice (some ⟨gb, 0, none⟩) k.files.length cap) k.files.length ((listed k.files).map encStr) := ⟨hlen, .inr ⟨gb, cap, cur, rfl, hbase, hgb, hcap, hmax, hsz, htk⟩⟩
        refine ho2.cells (g := gb) rfl i _ ?_
        rw [List.getElem?_map, List.getD_eq_getElem?_getD, List.getElem?_eq_getElem (by rw [listed_length]; exact hi)]
        rfl
      have HC := Hush.mk hC
      have hpos : 0 < k.files.length := List.length_pos_iff.2 he
      clear hv he hlen hgb htk hsz hC
      go_wp2
      go_loop [3, 9] (fun t i => ∃ j : Nat, j ≤ k.files.length ∧ i = .int .i64 (j : Nat) ∧ t = .int .i64 (usedOf k.files ((listed k.files).take j) : Nat)) (fun _ i => k.files.length - (intOf i).toNat)
      case atStart => exact ⟨0, Nat.zero_le _, rfl, rfl⟩
      case round =>
        obtain ⟨j, hj, rfl, rfl⟩ := hrel
        by_cases hlt : j < k.files.length
        · have hc := HC.out j hlt
          obtain ⟨x, hx⟩ : ∃ x, x = (listed k.files).getD j [] := ⟨_, rfl⟩
          rw [← hx] at hc
          have hl2 : j < (listed k.files).length := by rw [listed_length]; exact hlt
          have hxe : (listed k.files)[j] = x := by rw [hx, List.getD_eq_getElem?_getD, List.getElem?_eq_getElem hl2]; rfl
          have hxm : x ∈ listed k.files := hxe ▸ List.getElem_mem hl2
          have hts : (listed k.files).take (j + 1) = (listed k.files).take j ++ [x] := by rw [List.take_succ_eq_append_getElem hl2, hxe]
          have hus := usedOf_snoc (l := k.files) ((listed k.files).take j) x
          rw [← hts] at hus
          have hu1 := usedOf_take (l := k.files) (ns := listed k.files) (j + 1)
          rw [usedOf_listed HG.out.nodup] at hu1
          have hu2 := HG.out.used
          have hns := HG.out.lenName hxm
          have hlk := H1.out.look ⟨x.toArray⟩ (by unfold maxLen; omega)
          have hc2 : w1.cell? ⟨gb, j, none⟩ = some (.string ⟨x.toArray⟩) := by
            rw [Go.Proofs.YteilnbnnhocciaaW.PrintWords.add_plain] at hc
            exact hc
          generalize (⟨x.toArray⟩ : ByteArray) = nm at hlk hc2 hus
          generalize (find k.files nm).getD noFile = f at hlk hus
          simp only [fileVal] at hlk
          have hb1 : (usedOf k.files ((listed k.files).take j) : Int) + (f.s.size : Int) ≤ 16777216 := by omega
          have HS : Hush ((usedOf k.files ((listed k.files).take (j + 1)) : Int) = (usedOf k.files ((listed k.files).take j) : Int) + (f.s.size : Int)) := ⟨by omega⟩
          clear hus hts hxe hxm hx hc hu1 hu2 hns
          generalize usedOf k.files ((listed k.files).take j) = u at hb1 HS ⊢
          go_wp2
          go_round
          case rel => exact ⟨j + 1, by omega, by go_num, by rw [HS.out]⟩
          case measure => simp [intOf]; omega
        · have HE : Hush (usedOf k.files ((listed k.files).take j) = usedN k.files) := ⟨by
            rw [List.take_of_length_le (by rw [listed_length]; omega), usedOf_listed HG.out.nodup]⟩
          rw [HE.out]
          go_wp2
          go_ret
          exact ⟨rfl, HB.out⟩
end Go.Proofs.Yteilnbnnhocciaa.D

/-! D16 -/
set_option linter.unusedVariables false
set_option linter.unusedSimpArgs false
namespace Go.Proofs.Yteilnbnnhocciaa.D
open Go.RowKit Go.Maps Go.ChangeMaps Go.MapKept Go.WideMaps Go.Proofs.YteilnbnnhocciaaW.PrintWords Go.Proofs.YteilnbnnhocciaaW.PrintLast Go.Proofs.YteilnbnnhocciaaW.PrintMore
attribute [local go_sem] max2_int min2_int max_two min_two max_three min_three max_four min_four
theorem append_off {w : World} {p m : Nat} {k : Dk} (h : IsDisk w p m k) (n s : ByteArray) (hd : k.down = true) : Calls Try.prog 13 #[dp p, .string n, .string s] w (ActPost p m k 13 w) := by
  have H := Hush.mk h
  have HD := Hush.mk hd
  clear h hd
  go_enter Try.func13, Try.ntmps13
  go_wp2_with fail
  refine (may_off H.out HD.out).mono ?_
  rintro e w1 ⟨rfl, rfl⟩
  go_wp2
  go_ret
  exact ⟨rfl, H.out, Touch.refl _ _⟩
theorem IsDisk.drewN {w : World} {p m : Nat} {k : Dk} (h : IsDisk w p m k) (q : Nat) : IsDisk (w.drewN q) p m k := ⟨h.row, h.map⟩
theorem Touch.drewN {S : Nat → Prop} (w : World) (q : Nat) : Touch S w (w.drewN q) := ⟨rfl, rfl, rfl, Nat.le_refl _, fun _ _ _ => rfl⟩
def appendOwn (k : Dk) (n s : ByteArray) : Int := if (find k.files n).isSome then (if k.room < (usedN k.files : Int) + (s.size : Int) then 14 else 0) else 16
def appendF (f : FileV) (s : ByteArray) : FileV := ⟨f.s ++ s, f.sure⟩
def appendK (k : Dk) (n s : ByteArray) : Dk := if stepE k (appendOwn k n s) = 0 then { stepK k (appendOwn k n s) with files := upd k.files n (appendF ((find k.files n).getD noFile) s) } else stepK k (appendOwn k n s)
set_option maxRecDepth 100000 in
theorem append_on {w : World} {p m : Nat} {k : Dk} (h : IsDisk w p m k) (g : Good k) (n s : ByteArray) (hn : n.size ≤ maxLen) (hs : s.size ≤ 1000000000) (hd : k.down = false) :
    Calls Try.prog 13 #[dp p, .string n, .string s] w (ActPost p m (appendK k n s) (stepE k (appendOwn k n s)) w) := by
  have H := Hush.mk h
  have HD := Hush.mk hd
  have HN := Hush.mk hn
  have HG := Hush.mk g
  clear h hd hn g
  go_enter Try.func13, Try.ntmps13
  go_wp2_with fail
  refine (may_on H.out HD.out).mono ?_
  rintro e w1 ⟨rfl, rfl⟩
  go_wp2_with fail
  refine (there_any H.out n HN.out).mono ?_
  rintro e w3 ⟨rfl, hb3⟩
  have H3 := Hush.mk (H.out.below hb3)
  have T3 := Hush.mk (touch_b (p := p) (m := m) hb3)
  clear hb3
  have c1 := H3.out.c1
  by_cases hf : (find k.files n).isSome
  · have e0 : thereE k n = 0 := by unfold thereE; rw [if_pos hf]
    have HF := Hush.mk hf
    rw [e0]
    clear hf e0
    have hu : (usedN k.files : Int) ≤ 16777216 := by have := HG.out.used; omega
    have hss : (s.size : Int) ≤ 1000000000 := by omega
    have hw : IntKind.i64.wrap ((usedN k.files : Int) + (s.size : Int)) = (usedN k.files : Int) + (s.size : Int) := IntWalk.i64_in _ (by omega)
    have HRM := Hush.mk HG.out.room
    have hr0 := HRM.out.1
    have hr1 := HRM.out.2
    by_cases hx : k.room < (usedN k.files : Int) + (s.size : Int)
    · have HO : Hush (appendOwn k n s = 14) := ⟨by unfold appendOwn; rw [if_pos HF.out, if_pos hx]⟩
      go_wp2_with fail
      go_region_held3 (fun w' => w'.cell? ⟨p, 1, none⟩ = some (.int .i64 k.room)) (first | exact (H3.out.drew.below (by assumption)).c1 | go_keep) (((go_at_call 22; refine (used_on H3.out.drew HG.out).mono ?_; rintro e w4 ⟨rfl, hb4⟩)))
      have H4 := Hush.mk (H3.out.drew.below hb4)
      have T4 := Hush.mk (T3.out.trans ((Touch.drew _).trans (touch_b (p := p) (m := m) hb4)))
      clear hb4 hw
      go_wp2_with fail
      refine (step_own H4.out 14 (by decide)).mono ?_
      rintro e w5 ⟨rfl, hi, ht⟩
      have e3 : stepE k 14 = 14 := by simp [stepE]
      have k3 : stepK k 14 = k := by simp [stepK]
      rw [k3] at hi
      rw [e3]
      have HP : Hush (ActPost p m (appendK k n s) (stepE k (appendOwn k n s)) w1 (.returned (.int .i64 14)) w5) := ⟨by
        rw [appendK, HO.out, e3, if_neg (by decide), k3]
        exact ⟨rfl, hi, T4.out.trans (touch_p ht)⟩⟩
      clear hi ht e3 k3 hx
      go_wp2
      go_ret
      exact HP.out
    · have HO : Hush (appendOwn k n s = 0) := ⟨by unfold appendOwn; rw [if_pos HF.out, if_neg hx]⟩
      go_wp2_with fail
      go_region_held3 (fun w' => w'.cell? ⟨p, 1, none⟩ = some (.int .i64 k.room)) (first | exact (H3.out.drew.below (by assumption)).c1 | go_keep) (((go_at_call 22; refine (used_on H3.out.drew HG.out).mono ?_; rintro e w4 ⟨rfl, hb4⟩)))
      have H4 := Hush.mk (H3.out.drew.below hb4)
      have T4 := Hush.mk (T3.out.trans ((Touch.drew _).trans (touch_b (p := p) (m := m) hb4)))
      clear hb4 hw
      go_wp2_with fail
      refine (step_any H4.out 0 HG.out.fuse HG.out.fault).mono ?_
      rintro e w5 ⟨rfl, hi, ht⟩
      have H5 := Hush.mk hi
      have T5 := Hush.mk (T4.out.trans (touch_p ht))
      have HFI := Hush.mk (step_files (k := k) 0)
      have HK : Hush (appendK k n s = if stepE k 0 = 0 then { stepK k 0 with files := upd k.files n (appendF ((find k.files n).getD noFile) s) } else stepK k 0) := ⟨by rw [appendK, HO.out]⟩
      clear hi ht hx
      obtain ⟨r, hE⟩ : ∃ r, r = stepE k 0 := ⟨_, rfl⟩
      rw [← hE] at HK ⊢
      have HE := Hush.mk hE
      clear hE
      by_cases hr : r = 0
      · subst hr
        have hlk := H5.out.look n HN.out
        rw [HFI.out.1] at hlk
        have hfs := (HG.out.getD n).1
        generalize (find k.files n).getD noFile = f at hlk HK hfs
        simp only [fileVal] at hlk
        have hadd := fun W => run_string_add_sum (P := Try.prog) (w := W) f.s s (by omega)
        have c0 := H5.out.c0
        go_wp2
        have H6 := H5.out.alloc (.cells #[.string (f.s ++ s), .int .i64 f.sure] 60)
        have T6 : Touch (own2 p m) w1 (w5.alloc (.cells #[.string (f.s ++ s), .int .i64 f.sure] 60)) := T5.out.trans (Touch.alloc _ _)
        have hb0 : (w5.alloc (.cells #[.string (f.s ++ s), .int .i64 f.sure] 60)).heap[w5.heap.size]? = some (.cells #[.string (f.s ++ s), .int .i64 f.sure] 60 (0, 0)) := World.alloc_heap_new _ _
        generalize w5.alloc (.cells #[.string (f.s ++ s), .int .i64 f.sure] 60) = w6 at H6 T6 hb0 ⊢
        obtain ⟨w7, hst, hi7, hg7⟩ := H6.drew.store n HN.out (appendF f s) (by rw [HFI.out.1]; have := HG.out.few; omega)
        have d0 := H6.drew.c0
        have hb1 : w6.drew.heap[w5.heap.size]? = some (.cells #[.string (f.s ++ s), .int .i64 f.sure] 60 (0, 0)) := hb0
        have b0 : w6.drew.cell? ⟨w5.heap.size, 0, none⟩ = some (.string (f.s ++ s)) := by simp [World.cell?, hb1]
        have b1 : w6.drew.cell? ⟨w5.heap.size, 1, none⟩ = some (.int .i64 f.sure) := by simp [World.cell?, hb1]
        simp only [fileVal, appendF] at hst
        have HX : Hush (IsDisk w7 p m (appendK k n s) ∧ Touch (own2 p m) w1 w7) := ⟨by
          rw [HK.out, if_pos trivial]
          rw [HFI.out.1] at hi7
          exact hi7, T6.trans ((Touch.drew _).trans (Touch.of_grown hg7 (.inr rfl)))⟩
        clear c0 H6 T6 hb0 hb1 hi7 hg7 hlk hadd
        go_still_tail 6, (by kernel_rfl)
        change wpList _ _ _ _ _ w6.drew
        generalize w6.drew = w8 at d0 b0 b1 hst ⊢
        go_wp2
        go_ret
        exact ⟨by rw [HO.out, ← HE.out]; rfl, HX.out.1, HX.out.2⟩
      · have hrb : (r != 0) = true := by simpa using hr
        have HI2 : Hush (IsDisk w5 p m (appendK k n s)) := ⟨by rw [HK.out, if_neg hr]; exact H5.out⟩
        clear hr
        go_wp2
        go_ret
        exact ⟨by rw [HO.out, ← HE.out]; rfl, HI2.out, T5.out⟩
  · have e0 : thereE k n = 16 := by unfold thereE; rw [if_neg hf]
    have HO : Hush (appendOwn k n s = 16) := ⟨by unfold appendOwn; rw [if_neg hf]⟩
    rw [e0]
    clear hf e0
    go_wp2_with fail
    go_quiet (fail)
    go_wp2_with fail
    refine (step_own (H3.out.drewN _) 16 (by decide)).mono ?_
    rintro e w5 ⟨rfl, hi, ht⟩
    have e3 : stepE k 16 = 16 := by simp [stepE]
    have k3 : stepK k 16 = k := by simp [stepK]
    rw [k3] at hi
    rw [e3]
    have HP : Hush (ActPost p m (appendK k n s) (stepE k (appendOwn k n s)) w1 (.returned (.int .i64 16)) w5) := ⟨by
      rw [appendK, HO.out, e3, if_neg (by decide), k3]
      exact ⟨rfl, hi, T3.out.trans ((Touch.drewN _ _).trans (touch_p ht))⟩⟩
    clear hi ht e3 k3
    go_wp2
    go_ret
    exact HP.out
end Go.Proofs.Yteilnbnnhocciaa.D

/-! D18 -/
set_option linter.unusedVariables false
set_option linter.unusedSimpArgs false
namespace Go.Proofs.Yteilnbnnhocciaa.D
open Go.RowKit Go.Maps Go.ChangeMaps Go.MapKept Go.WideMaps Go.Proofs.YteilnbnnhocciaaW.PrintWords Go.Proofs.YteilnbnnhocciaaW.PrintLast Go.Proofs.YteilnbnnhocciaaW.PrintMore
attribute [local go_sem] max2_int min2_int max_two min_two max_three min_three max_four min_four
theorem read_off {w : World} {p m : Nat} {k : Dk} (h : IsDisk w p m k) (n : ByteArray) (hd : k.down = true) : Calls Try.prog 17 #[dp p, .string n] w fun e w' => e = .returned (.tuple #[.string ⟨#[]⟩, .int .i64 13]) ∧ w' = w := by
  have H := Hush.mk h
  have HD := Hush.mk hd
  clear h hd
  go_enter Try.func17, Try.ntmps17
  go_wp2_with fail
  refine (may_off H.out HD.out).mono ?_
  rintro e w1 ⟨rfl, rfl⟩
  go_wp2
  go_ret2
  exact ⟨rfl, rfl⟩
attribute [local go_sem ↓] run_field60
def readS (k : Dk) (n : ByteArray) : ByteArray := ((find k.files n).getD noFile).s
set_option maxRecDepth 100000 in
theorem read_on {w : World} {p m : Nat} {k : Dk} (h : IsDisk w p m k) (n : ByteArray) (hn : n.size ≤ maxLen) (hd : k.down = false) : Calls Try.prog 17 #[dp p, .string n] w fun e w' => e = .returned (.tuple #[.string (readS k n), .int .i64 (thereE k n)]) ∧ Below w.heap.size w w' := by
  unfold readS
  have HL : Hush (∀ W, IsDisk W p m k → (Instr.lookup 53 (.map (some m)) (.string n) false).run Try.prog W = .ok (fileVal ((find k.files n).getD noFile)) W) := ⟨fun W hW => hW.look n hn⟩
  generalize (find k.files n).getD noFile = f at HL ⊢
  simp only [fileVal] at HL
  have H := Hush.mk h
  have HD := Hush.mk hd
  have HN := Hush.mk hn
  clear h hd hn
  go_enter Try.func17, Try.ntmps17
  go_wp2_with fail
  refine (may_on H.out HD.out).mono ?_
  rintro e w1 ⟨rfl, rfl⟩
  have c0 := H.out.c0
  go_wp2_with fail
  go_region_held3 (fun w' => w'.cell? ⟨p, 0, none⟩ = some (.map (some m)) ∧ (Instr.lookup 53 (.map (some m)) (.string n) false).run Try.prog w' = .ok (.agg #[.string f.s, .int .i64 f.sure]) w')
    (first | exact ⟨H.out.drew.c0, HL.out _ H.out.drew⟩ | exact ⟨(H.out.drew.below (by assumption)).c0, HL.out _ (H.out.drew.below (by assumption))⟩)
    (((go_at_call 31; refine (there_any H.out.drew n HN.out).mono ?_; rintro e w4 ⟨rfl, hb4⟩)))
  all_goals go_wp2
  all_goals go_ret2
  all_goals exact ⟨rfl, ((Below.refl _ _).drew).trans (by assumption)⟩
end Go.Proofs.Yteilnbnnhocciaa.D

/-! D19 -/
set_option linter.unusedVariables false
set_option linter.unusedSimpArgs false
namespace Go.Proofs.Yteilnbnnhocciaa.D
open Go.RowKit Go.Maps Go.ChangeMaps Go.MapKept Go.WideMaps Go.Proofs.YteilnbnnhocciaaW.PrintWords Go.Proofs.YteilnbnnhocciaaW.PrintLast Go.Proofs.YteilnbnnhocciaaW.PrintMore
attribute [local go_sem] max2_int min2_int max_two min_two max_three min_three max_four min_four
structure FateV where
  keep : Int
  at_ : Int
  turn : Nat
def fateVal (x : FateV) : Value := .agg #[.int .i64 x.keep, .int .i64 x.at_, .int .u8 (x.turn : Nat)]
def looseB (f : FileV) : ByteArray := f.s.extract f.sure.toNat f.s.size
def keepN (f : FileV) (x : FateV) : Nat := if x.keep < 0 then 0 else if (x.keep : Int) ≤ ((looseB f).size : Int) then x.keep.toNat else (looseB f).size
def keptL (f : FileV) (x : FateV) : List Int := (bytesOf (looseB f)).take (keepN f x)
def turnedL (f : FileV) (x : FateV) : List Int := if 0 ≤ x.at_ ∧ x.at_ < (keepN f x : Int) then (keptL f x).set x.at_.toNat (Go.bits .xor .u8 ((keptL f x).getD x.at_.toNat 0) (x.turn : Int)) else keptL f x
def fallF (f : FileV) (x : FateV) : FileV := ⟨f.s.extract 0 f.sure.toNat ++ strOfNums (turnedL f x), ((f.s.extract 0 f.sure.toNat ++ strOfNums (turnedL f x)).size : Nat)⟩
theorem bytes_free {W : World} {g sz kk t : Nat} {cells : Array Value} (h : W.heap[g]? = some (.cells cells t (sz, sz + 1))) (hk : kk < sz) : W.frozen? ⟨g, kk, none⟩ = false := by
  simp [World.frozen?, h]
  omega
theorem bytesCells_size (w : World) (e : TypeId) (s : ByteArray) : s.size ≤ (Lib.bytesCells w e s).size := by
  unfold Lib.bytesCells
  rw [Array.size_append, Array.size_map]
  exact Nat.le_add_right _ _
theorem strOfNums_size (l : List Int) : (strOfNums l).size = l.length := by simp [strOfNums, ByteArray.size]
theorem looseB_size (f : FileV) (h0 : 0 ≤ f.sure) (h1 : f.sure ≤ (f.s.size : Int)) : ((looseB f).size : Int) = (f.s.size : Int) - f.sure := by
  unfold looseB
  rw [ByteArray.size_extract]
  omega
theorem reads_set {W : World} {g n kk : Nat} {xs : List Int} (h : ReadsInt W .u8 (some ⟨g, 0, none⟩) n xs) (d : Int) : ReadsInt (W.setCell ⟨g, kk, none⟩ (.int .u8 d)) .u8 (some ⟨g, 0, none⟩) n (xs.set kk d) := by
  obtain ⟨h1, h2, h3⟩ := h
  refine ⟨by rw [List.length_set]; exact h1, h2, fun hn => ⟨_, rfl, fun j hj => ?_⟩⟩
  obtain ⟨ad, e, hc⟩ := h3 hn
  obtain rfl := Option.some.inj e
  have hj2 := hc j hj
  rw [add_plain] at hj2 ⊢
  by_cases hjk : j = kk
  · subst hjk
    rw [World.cell?_setCell_same' _ _ _ (by rw [hj2]; rfl)]
    simp [List.getD_eq_getElem?_getD, show j < xs.length from by omega]
  · rw [World.cell?_setCell_other _ _ _ _ (by simp [hjk]), hj2]
    simp [List.getD_eq_getElem?_getD, List.getElem?_set_ne (Ne.symm hjk)]
theorem three_allocs (w : World) (a b c : Array Value) (ta tb tc : TypeId) : (((w.alloc (.cells a ta)).alloc (.cells b tb)).alloc (.cells c tc)).heap[w.heap.size]? = some (.cells a ta (0, 0)) ∧ (((w.alloc (.cells a ta)).alloc (.cells b tb)).alloc (.cells c tc)).heap[w.heap.size + 1]? = some (.cells b tb (0, 0)) ∧
    (((w.alloc (.cells a ta)).alloc (.cells b tb)).alloc (.cells c tc)).heap[w.heap.size + 2]? = some (.cells c tc (0, 0)) ∧ (((w.alloc (.cells a ta)).alloc (.cells b tb)).alloc (.cells c tc)).heap.size = w.heap.size + 3 ∧ Below w.heap.size w (((w.alloc (.cells a ta)).alloc (.cells b tb)).alloc (.cells c tc)) := by
  have e1 := World.alloc_heap_new w (.cells a ta)
  have e2 := World.alloc_heap_new (w.alloc (.cells a ta)) (.cells b tb)
  have e3 := World.alloc_heap_new ((w.alloc (.cells a ta)).alloc (.cells b tb)) (.cells c tc)
  have s1 : (w.alloc (.cells a ta)).heap.size = w.heap.size + 1 := by simp
  have s2 : ((w.alloc (.cells a ta)).alloc (.cells b tb)).heap.size = w.heap.size + 2 := by simp
  rw [s1] at e2
  rw [s2] at e3
  have b1 := Below.heap_alloc w (.cells a ta)
  have b2 := Below.heap_alloc (w.alloc (.cells a ta)) (.cells b tb)
  have b3 := Below.heap_alloc ((w.alloc (.cells a ta)).alloc (.cells b tb)) (.cells c tc)
  refine ⟨?_, ?_, e3, by simp, (((Below.refl _ w).alloc (Nat.le_refl _) _).alloc (by simp) _).alloc (by simp; omega) _⟩
  · rw [b3 _ (by omega), b2 _ (by omega), e1]
  · rw [b3 _ (by omega), e2]
set_option maxRecDepth 100000 in
set_option maxHeartbeats 1000000 in
theorem fall_on (f : FileV) (x : FateV) (w : World) (h0 : 0 ≤ f.sure) (h1 : f.sure ≤ (f.s.size : Int)) (h2 : f.s.size ≤ 16777216) (ht : x.turn < 256) : Calls Try.prog 35 #[fileVal f, fateVal x] w fun e w' => e = .returned (fileVal (fallF f x)) ∧ Below w.heap.size w w' := by
  have hLs := looseB_size f h0 h1
  have HK : Hush (keepN f x = if x.keep < 0 then 0 else if (x.keep : Int) ≤ ((looseB f).size : Int) then x.keep.toNat else (looseB f).size) := ⟨rfl⟩
  have HKL : Hush (keptL f x = (bytesOf (looseB f)).take (keepN f x)) := ⟨rfl⟩
  have HT : Hush (turnedL f x = if 0 ≤ x.at_ ∧ x.at_ < (keepN f x : Int) then (keptL f x).set x.at_.toNat (Go.bits .xor .u8 ((keptL f x).getD x.at_.toNat 0) (x.turn : Int)) else keptL f x) := ⟨rfl⟩
  have HF : Hush (fallF f x = ⟨f.s.extract 0 f.sure.toNat ++ strOfNums (turnedL f x), ((f.s.extract 0 f.sure.toNat ++ strOfNums (turnedL f x)).size : Nat)⟩) := ⟨rfl⟩
  have HB : looseB f = f.s.extract f.sure.toNat f.s.size := rfl
  generalize keepN f x = kk at HK HKL HT
  generalize turnedL f x = tl at HT HF
  generalize keptL f x = kl at HKL HT
  generalize looseB f = B at HK HKL HB hLs
  generalize fallF f x = res at HF ⊢
  obtain ⟨s, sure⟩ := f
  obtain ⟨keep, at_, turn⟩ := x
  obtain ⟨u, rfl⟩ := Int.eq_ofNat_of_zero_le h0
  simp only [fileVal, fateVal, Int.toNat_natCast] at *
  have h1' : u ≤ s.size := by omega
  have hkk : kk ≤ B.size := by
    rw [HK.out]
    split
    · exact Nat.zero_le _
    · split <;> omega
  have hBs : B.size ≤ 16777216 := by omega
  go_enter Try.func35, Try.ntmps35
  go_wp2_with fail
  rw [← HB]
  obtain ⟨hA, hX, hC, hsz, hbw⟩ := three_allocs w #[.string s, .int .i64 (u : Nat)] #[.int .i64 keep, .int .i64 at_, .int .u8 (turn : Nat)] #[.string ⟨#[]⟩, .int .i64 0] 60 34 60
  generalize ((w.alloc (.cells #[.string s, .int .i64 (u : Nat)] 60)).alloc (.cells #[.int .i64 keep, .int .i64 at_, .int .u8 (turn : Nat)] 34)).alloc (.cells #[.string ⟨#[]⟩, .int .i64 0] 60) = W3 at hA hX hC hsz hbw ⊢
  have hconv := Lib.run_convert_string_bytes (P := Try.prog) W3 9 27 5 B Try.underlying9 Try.underlying27 Try.underlying5
  have hbb : Below W3.heap.size W3 (Lib.bytesWorld W3 5 B) := bytes_below (Below.refl _ _) (Nat.le_refl _) 5 B
  have hbr := bytes_reads W3 5 B (by omega)
  have hbn := Lib.bytesWorld_at_new W3 5 B
  have hcap := grownCap_ge W3 B.size 0 5
  generalize Lib.bytesWorld W3 5 B = W4 at hconv hbb hbr hbn
  generalize grownCap W3 B.size 0 5 = cap at hconv hcap
  rw [hsz] at hbr hbn hbb hconv
  have hA4 := (hbb.block w.heap.size (by omega)).trans hA
  have hX4 := (hbb.block (w.heap.size + 1) (by omega)).trans hX
  have hC4 := (hbb.block (w.heap.size + 2) (by omega)).trans hC
  have hW4 := hbb.size
  have HBW : Hush (Below w.heap.size w W4) := ⟨hbw.trans (hbb.mono (by omega))⟩
  have x0 : W4.cell? ⟨w.heap.size + 1, 0, none⟩ = some (.int .i64 keep) := by simp [World.cell?, hX4]
  have x1 : W4.cell? ⟨w.heap.size + 1, 1, none⟩ = some (.int .i64 at_) := by simp [World.cell?, hX4]
  have hC4' : W4.heap[w.heap.size + 1 + 1]? = some (.cells #[.string ⟨#[]⟩, .int .i64 0] 60 (0, 0)) := hC4
  rw [hconv]
  have hexz : (s.extract 0 u).size ≤ 16777216 := by rw [ByteArray.size_extract]; omega
  have hways : (keep < 0 ∧ kk = 0) ∨ (∃ q : Nat, keep = (q : Int) ∧ (q : Int) ≤ (B.size : Int) ∧ kk = q) ∨ ((B.size : Int) < keep ∧ kk = B.size) := by
    rw [HK.out]
    by_cases a1 : keep < 0
    · exact .inl ⟨a1, by rw [if_pos a1]⟩
    · by_cases a2 : keep ≤ (B.size : Int)
      · exact .inr (.inl ⟨keep.toNat, by omega, by omega, by rw [if_neg a1, if_pos a2]⟩)
      · exact .inr (.inr ⟨by omega, by rw [if_neg a1, if_neg a2]⟩)
  have HB2 := Hush.mk HB
  have HBN := Hush.mk hbn
  have HBR := Hush.mk hbr
  have HA4 := Hush.mk hA4
  have HX4 := Hush.mk hX4
  have HC4 := Hush.mk hC4'
  have hkk2 : (kk : Int) ≤ (B.size : Int) := by omega
  have hkk3 : (kk : Int) ≤ (cap : Int) := by omega
  have hu0 : (0 : Int) ≤ (u : Int) := by omega
  have hu1 : (u : Int) ≤ (s.size : Int) := by omega
  have hL0 : (B.size : Int) ≤ 16777216 := by omega
  clear hA hX hC hbw hbb hbr hbn hA4 hX4 hC4 hC4' HB h1 h1' hLs h2 hsz hconv
  obtain ⟨R, hR⟩ : ∃ R, R = s.extract 0 u ++ strOfNums tl := ⟨_, rfl⟩
  have HRES : Hush (res = ⟨R, (R.size : Nat)⟩) := ⟨by rw [HF.out, hR]⟩
  have hfin : ∀ Wf : World, Wf.heap[w.heap.size]? = some (.cells #[.string s, .int .i64 (u : Nat)] 60 (0, 0)) → Wf.heap[w.heap.size + 1 + 1]? = some (.cells #[.string ⟨#[]⟩, .int .i64 0] 60 (0, 0)) → ReadsInt Wf .u8 (some ⟨w.heap.size + 3, 0, none⟩) kk tl → Below w.heap.size w Wf →
      Hush (Wf.drew.cell? ⟨w.heap.size, 0, none⟩ = some (.string s) ∧ Wf.drew.cell? ⟨w.heap.size, 1, none⟩ = some (.int .i64 (u : Nat)) ∧ (convert 27 9 (.slice (some ⟨w.heap.size + 3, 0, none⟩) kk cap)).run Try.prog Wf.drew = .ok (.string (strOfNums tl)) Wf.drew ∧ (Op.stringOp .add (s.extract 0 u) (strOfNums tl)).run Try.prog Wf.drew = .ok (.string R) Wf.drew ∧
        Wf.drew.cell? ⟨w.heap.size + 1 + 1, 0, none⟩ = some (.string ⟨#[]⟩) ∧ Wf.drew.cell? ⟨w.heap.size + 1 + 1, 1, none⟩ = some (.int .i64 0) ∧ Wf.drew.frozen? ⟨w.heap.size + 1 + 1, 0, none⟩ = false ∧ Wf.drew.frozen? ⟨w.heap.size + 1 + 1, 1, none⟩ = false ∧ Below w.heap.size w Wf) := by
    intro Wf hA hC hR' hB
    have hA' : Wf.drew.heap[w.heap.size]? = some (.cells #[.string s, .int .i64 (u : Nat)] 60 (0, 0)) := hA
    have hC' : Wf.drew.heap[w.heap.size + 1 + 1]? = some (.cells #[.string ⟨#[]⟩, .int .i64 0] 60 (0, 0)) := hC
    have hR2 : ReadsInt Wf.drew .u8 (some ⟨w.heap.size + 3, 0, none⟩) kk tl := hR'
    refine ⟨by simp [World.cell?, hA'], by simp [World.cell?, hA'], string_of_reads Try.underlying27 Try.underlying5 Try.underlying9 hR2, ?_, by simp [World.cell?, hC'], by simp [World.cell?, hC'], by simp [World.frozen?, hC'], by simp [World.frozen?, hC'], hB⟩
    rw [hR]
    exact run_string_add_sum _ _ _ (by rw [strOfNums_size, hR'.1]; omega)
  have HFIN := Hush.mk hfin
  clear hfin hR
  by_cases hat : 0 ≤ at_ ∧ at_ < (kk : Int)
  · obtain ⟨a, rfl⟩ := Int.eq_ofNat_of_zero_le hat.1
    have ha : (a : Int) < (kk : Int) := hat.2
    have ha2 : a < kk := by omega
    have htl : tl = kl.set a (Go.bits .xor .u8 (kl.getD a 0) (turn : Int)) := by rw [HT.out, if_pos hat, Int.toNat_natCast]
    obtain ⟨ad, e, hel⟩ := (HBR.out.take_ kk hkk).at_ (a : Int) (by omega) ha
    obtain rfl := Option.some.inj e
    rw [Int.toNat_natCast, add_plain] at hel
    rw [show rd ((bytesOf B).take kk) (a : Int) = kl.getD a 0 from by rw [HKL.out]; rfl] at hel
    obtain ⟨y, hy⟩ : ∃ y, y = Go.bits .xor .u8 (kl.getD a 0) (turn : Int) := ⟨_, rfl⟩
    rw [← hy] at htl
    have HXY : Hush (Go.bits .xor .u8 (kl.getD a 0) (turn : Int) = y) := ⟨hy.symm⟩
    have HS : Hush (ReadsInt (W4.drew.setCell ⟨w.heap.size + 3, a, none⟩ (.int .u8 y)) .u8 (some ⟨w.heap.size + 3, 0, none⟩) kk tl) := ⟨by rw [htl, HKL.out]; exact reads_set (W := W4.drew) (HBR.out.take_ kk hkk) y⟩
    have HBZ : Hush (Below w.heap.size w (W4.drew.setCell ⟨w.heap.size + 3, a, none⟩ (.int .u8 y))) := ⟨(HBW.out.trans (Below.drew (Below.refl _ W4))).setCell (p := ⟨w.heap.size + 3, a, none⟩) (by simp) _⟩
    have hA5 : (W4.drew.setCell ⟨w.heap.size + 3, a, none⟩ (.int .u8 y)).heap[w.heap.size]? = _ := (Below.heap_setCell W4.drew ⟨w.heap.size + 3, a, none⟩ (.int .u8 y) w.heap.size (by show w.heap.size ≠ w.heap.size + 3; omega)).trans HA4.out
    have hC5 : (W4.drew.setCell ⟨w.heap.size + 3, a, none⟩ (.int .u8 y)).heap[w.heap.size + 1 + 1]? = _ := (Below.heap_setCell W4.drew ⟨w.heap.size + 3, a, none⟩ (.int .u8 y) (w.heap.size + 1 + 1) (by show w.heap.size + 1 + 1 ≠ w.heap.size + 3; omega)).trans HC4.out
    have HG := HFIN.out ((W4.setCell ⟨w.heap.size + 3, a, none⟩ (.int .u8 y)).drew) hA5 hC5 HS.out HBZ.out
    have hfz : W4.drew.frozen? ⟨w.heap.size + 3, a, none⟩ = false := by
      have hn : W4.drew.heap[w.heap.size + 3]? = _ := HBN.out
      exact bytes_free hn (Nat.lt_of_lt_of_le (show a < B.size by omega) (bytesCells_size _ _ _))
    have hel5 : W4.drew.cell? ⟨w.heap.size + 3, a, none⟩ = some (.int .u8 (kl.getD a 0)) := hel
    have hX5 : W4.drew.heap[w.heap.size + 1]? = some (.cells #[.int .i64 keep, .int .i64 (a : Nat), .int .u8 (turn : Nat)] 34 (0, 0)) := HX4.out
    have y1 : W4.drew.cell? ⟨w.heap.size + 1, 1, none⟩ = some (.int .i64 (a : Nat)) := by simp [World.cell?, hX5]
    have y2 : W4.drew.cell? ⟨w.heap.size + 1, 2, none⟩ = some (.int .u8 (turn : Nat)) := by simp [World.cell?, hX5]
    generalize kl.getD a 0 = v0 at HXY hel hel5
    have F5 := Hush.mk (And.intro hfz (And.intro hel5 (And.intro y1 y2)))
    clear htl HS hat hA5 hC5 hfz hel hX5 hy y1 y2 hel5
    rcases hways with ⟨hk, rfl⟩ | ⟨q, rfl, hq, e⟩ | ⟨hk, rfl⟩
    · exact absurd ha2 (Nat.not_lt_zero _)
    · obtain rfl := e; go_wp2
      obtain ⟨hfz, hel5, y1, y2⟩ := F5.out
      have hxy := HXY.out
      go_still_tail 9, (by kernel_rfl)
      change wpList _ _ _ _ _ W4.drew
      go_wp2
      clear hfz hel5 y1 y2 hxy
      generalize (W4.setCell ⟨w.heap.size + 3, a, none⟩ (.int .u8 y)).drew = Wf at HG ⊢
      go_region_held3 (fun w' => w'.cell? ⟨w.heap.size, 0, none⟩ = some (.string s) ∧ w'.cell? ⟨w.heap.size, 1, none⟩ = some (.int .i64 (u : Nat)) ∧ (convert 27 9 (.slice (some ⟨w.heap.size + 3, 0, none⟩) kk cap)).run Try.prog w' = .ok (.string (strOfNums tl)) w' ∧ (Op.stringOp .add (s.extract 0 u) (strOfNums tl)).run Try.prog w' = .ok (.string R) w')
        (exact ⟨HG.out.1, HG.out.2.1, HG.out.2.2.1, HG.out.2.2.2.1⟩) (fail)
      have k0 := HG.out.2.2.2.2.1
      have k1 := HG.out.2.2.2.2.2.1
      have z0 := HG.out.2.2.2.2.2.2.1
      have z1 := HG.out.2.2.2.2.2.2.2.1
      have hbg : Below w.heap.size w Wf.drew := HG.out.2.2.2.2.2.2.2.2.trans (Below.drew (Below.refl _ _))
      have HBG := Hush.mk hbg
      clear HG hbg
      generalize Wf.drew = Wg at k0 k1 z0 z1 HBG ⊢
      go_wp2
      refine bodyPost_ret (v := fileVal res) ?_ rfl ⟨rfl, ?_⟩
      · rw [HRES.out]
        simp [results, Try.results35, go_sem, fileVal, k0, k1, z0, z1]
      · exact (HBG.out.setCell (p := ⟨w.heap.size + 1 + 1, 0, none⟩) (by simp; omega) _).setCell (p := ⟨w.heap.size + 1 + 1, 1, none⟩) (by simp; omega) _
    · go_wp2
      obtain ⟨hfz, hel5, y1, y2⟩ := F5.out
      have hxy := HXY.out
      go_still_tail 9, (by kernel_rfl)
      change wpList _ _ _ _ _ W4.drew
      go_wp2
      clear hfz hel5 y1 y2 hxy
      generalize (W4.setCell ⟨w.heap.size + 3, a, none⟩ (.int .u8 y)).drew = Wf at HG ⊢
      go_region_held3 (fun w' => w'.cell? ⟨w.heap.size, 0, none⟩ = some (.string s) ∧ w'.cell? ⟨w.heap.size, 1, none⟩ = some (.int .i64 (u : Nat)) ∧ (convert 27 9 (.slice (some ⟨w.heap.size + 3, 0, none⟩) B.size cap)).run Try.prog w' = .ok (.string (strOfNums tl)) w' ∧ (Op.stringOp .add (s.extract 0 u) (strOfNums tl)).run Try.prog w' = .ok (.string R) w')
        (exact ⟨HG.out.1, HG.out.2.1, HG.out.2.2.1, HG.out.2.2.2.1⟩) (fail)
      have k0 := HG.out.2.2.2.2.1
      have k1 := HG.out.2.2.2.2.2.1
      have z0 := HG.out.2.2.2.2.2.2.1
      have z1 := HG.out.2.2.2.2.2.2.2.1
      have hbg : Below w.heap.size w Wf.drew := HG.out.2.2.2.2.2.2.2.2.trans (Below.drew (Below.refl _ _))
      have HBG := Hush.mk hbg
      clear HG hbg
      generalize Wf.drew = Wg at k0 k1 z0 z1 HBG ⊢
      go_wp2
      refine bodyPost_ret (v := fileVal res) ?_ rfl ⟨rfl, ?_⟩
      · rw [HRES.out]
        simp [results, Try.results35, go_sem, fileVal, k0, k1, z0, z1]
      · exact (HBG.out.setCell (p := ⟨w.heap.size + 1 + 1, 0, none⟩) (by simp; omega) _).setCell (p := ⟨w.heap.size + 1 + 1, 1, none⟩) (by simp; omega) _
  · have htl : tl = kl := by rw [HT.out, if_neg hat]
    have HS : Hush (ReadsInt W4 .u8 (some ⟨w.heap.size + 3, 0, none⟩) kk tl) := ⟨by rw [htl, HKL.out]; exact HBR.out.take_ kk hkk⟩
    have HG := HFIN.out W4 HA4.out HC4.out HS.out HBW.out
    clear htl HS
    have hat2 : at_ < 0 ∨ (0 ≤ at_ ∧ (kk : Int) ≤ at_) := by omega
    clear hat
    rcases hways with ⟨hk, rfl⟩ | ⟨q, rfl, hq, e⟩ | ⟨hk, rfl⟩
    · rcases hat2 with h1 | ⟨h1, h1'⟩
      all_goals
        go_wp2
        go_region_held3 (fun w' => w'.cell? ⟨w.heap.size, 0, none⟩ = some (.string s) ∧ w'.cell? ⟨w.heap.size, 1, none⟩ = some (.int .i64 (u : Nat)) ∧ (convert 27 9 (.slice (some ⟨w.heap.size + 3, 0, none⟩) 0 cap)).run Try.prog w' = .ok (.string (strOfNums tl)) w' ∧ (Op.stringOp .add (s.extract 0 u) (strOfNums tl)).run Try.prog w' = .ok (.string R) w')
          (exact ⟨HG.out.1, HG.out.2.1, HG.out.2.2.1, HG.out.2.2.2.1⟩) (fail)
        have k0 := HG.out.2.2.2.2.1
        have k1 := HG.out.2.2.2.2.2.1
        have z0 := HG.out.2.2.2.2.2.2.1
        have z1 := HG.out.2.2.2.2.2.2.2.1
        have hbg : Below w.heap.size w W4.drew := HG.out.2.2.2.2.2.2.2.2.trans (Below.drew (Below.refl _ _))
        have HBG := Hush.mk hbg
        clear HG hbg
        generalize W4.drew = Wg at k0 k1 z0 z1 HBG ⊢
        go_wp2
        refine bodyPost_ret (v := fileVal res) ?_ rfl ⟨rfl, ?_⟩
        · rw [HRES.out]
          simp [results, Try.results35, go_sem, fileVal, k0, k1, z0, z1]
        · exact (HBG.out.setCell (p := ⟨w.heap.size + 1 + 1, 0, none⟩) (by simp; omega) _).setCell (p := ⟨w.heap.size + 1 + 1, 1, none⟩) (by simp; omega) _
    · obtain rfl := e; rcases hat2 with h1 | ⟨h1, h1'⟩
      all_goals
        go_wp2
        go_region_held3 (fun w' => w'.cell? ⟨w.heap.size, 0, none⟩ = some (.string s) ∧ w'.cell? ⟨w.heap.size, 1, none⟩ = some (.int .i64 (u : Nat)) ∧ (convert 27 9 (.slice (some ⟨w.heap.size + 3, 0, none⟩) kk cap)).run Try.prog w' = .ok (.string (strOfNums tl)) w' ∧ (Op.stringOp .add (s.extract 0 u) (strOfNums tl)).run Try.prog w' = .ok (.string R) w')
          (exact ⟨HG.out.1, HG.out.2.1, HG.out.2.2.1, HG.out.2.2.2.1⟩) (fail)
        have k0 := HG.out.2.2.2.2.1
        have k1 := HG.out.2.2.2.2.2.1
        have z0 := HG.out.2.2.2.2.2.2.1
        have z1 := HG.out.2.2.2.2.2.2.2.1
        have hbg : Below w.heap.size w W4.drew := HG.out.2.2.2.2.2.2.2.2.trans (Below.drew (Below.refl _ _))
        have HBG := Hush.mk hbg
        clear HG hbg
        generalize W4.drew = Wg at k0 k1 z0 z1 HBG ⊢
        go_wp2
        refine bodyPost_ret (v := fileVal res) ?_ rfl ⟨rfl, ?_⟩
        · rw [HRES.out]
          simp [results, Try.results35, go_sem, fileVal, k0, k1, z0, z1]
        · exact (HBG.out.setCell (p := ⟨w.heap.size + 1 + 1, 0, none⟩) (by simp; omega) _).setCell (p := ⟨w.heap.size + 1 + 1, 1, none⟩) (by simp; omega) _
    · rcases hat2 with h1 | ⟨h1, h1'⟩
      all_goals
        go_wp2
        go_region_held3 (fun w' => w'.cell? ⟨w.heap.size, 0, none⟩ = some (.string s) ∧ w'.cell? ⟨w.heap.size, 1, none⟩ = some (.int .i64 (u : Nat)) ∧ (convert 27 9 (.slice (some ⟨w.heap.size + 3, 0, none⟩) B.size cap)).run Try.prog w' = .ok (.string (strOfNums tl)) w' ∧ (Op.stringOp .add (s.extract 0 u) (strOfNums tl)).run Try.prog w' = .ok (.string R) w')
          (exact ⟨HG.out.1, HG.out.2.1, HG.out.2.2.1, HG.out.2.2.2.1⟩) (fail)
        have k0 := HG.out.2.2.2.2.1
        have k1 := HG.out.2.2.2.2.2.1
        have z0 := HG.out.2.2.2.2.2.2.1
        have z1 := HG.out.2.2.2.2.2.2.2.1
        have hbg : Below w.heap.size w W4.drew := HG.out.2.2.2.2.2.2.2.2.trans (Below.drew (Below.refl _ _))
        have HBG := Hush.mk hbg
        clear HG hbg
        generalize W4.drew = Wg at k0 k1 z0 z1 HBG ⊢
        go_wp2
        refine bodyPost_ret (v := fileVal res) ?_ rfl ⟨rfl, ?_⟩
        · rw [HRES.out]
          simp [results, Try.results35, go_sem, fileVal, k0, k1, z0, z1]
        · exact (HBG.out.setCell (p := ⟨w.heap.size + 1 + 1, 0, none⟩) (by simp; omega) _).setCell (p := ⟨w.heap.size + 1 + 1, 1, none⟩) (by simp; omega) _
end Go.Proofs.Yteilnbnnhocciaa.D

/-! D22 -/
set_option linter.unusedVariables false
set_option linter.unusedSimpArgs false
namespace Go.Proofs.Yteilnbnnhocciaa.D
open Go.RowKit Go.Maps Go.ChangeMaps Go.MapKept Go.WideMaps Go.Sort Go.Proofs.YteilnbnnhocciaaW.PrintWords Go.Proofs.YteilnbnnhocciaaW.PrintLast Go.Proofs.YteilnbnnhocciaaW.PrintMore
def zeroFate : FateV := ⟨0, 0, 0⟩
def crashOne (fates : List FateV) (s : Files × Nat) (x : List UInt8) : Files × Nat :=
  if looseF ((find s.1 ⟨x.toArray⟩).getD noFile) = 0 then s else (upd s.1 ⟨x.toArray⟩ (fallF ((find s.1 ⟨x.toArray⟩).getD noFile) (fates.getD s.2 zeroFate)), s.2 + 1)
def crashGo (fates : List FateV) (l : Files) (ns : List (List UInt8)) : Files × Nat := ns.foldl (crashOne fates) (l, 0)
def crashK (k : Dk) (fates : List FateV) : Dk := ⟨(crashGo fates k.files (listed k.files)).1, k.room, k.steps, -1, -1, false⟩
def FatesAt (w : World) (p m : Nat) (A : Option Addr) (fs : List FateV) : Prop :=
  0 < fs.length → ∃ fb fo, A = some ⟨fb, fo, none⟩ ∧ fb ≠ p ∧ fb ≠ m ∧ ∀ j, j < fs.length → w.cell? ⟨fb, fo + j * 3, none⟩ = some (.int .i64 (fs.getD j zeroFate).keep) ∧ w.cell? ⟨fb, fo + j * 3 + 1, none⟩ = some (.int .i64 (fs.getD j zeroFate).at_) ∧ w.cell? ⟨fb, fo + j * 3 + 2, none⟩ = some (.int .u8 ((fs.getD j zeroFate).turn : Nat))
theorem Touch.cell {S : Nat → Prop} {w w' : World} (t : Touch S w w') {a : Addr} {v : Value} (hs : ¬ S a.block) (h : w.cell? a = some v) : w'.cell? a = some v := by
  have hb := t.block a.block (World.block_lt_of_cell? w a h) hs
  rw [← h]
  unfold World.cell?
  rw [hb]
theorem FatesAt.touch {w w' : World} {p m : Nat} {A : Option Addr} {fs : List FateV} (h : FatesAt w p m A fs) (t : Touch (own2 p m) w w') : FatesAt w' p m A fs := fun h0 => by
  obtain ⟨fb, fo, e, hp, hm, hc⟩ := h h0
  have hn : ¬ own2 p m fb := fun e => e.elim hp hm
  exact ⟨fb, fo, e, hp, hm, fun j hj => ⟨t.cell hn (hc j hj).1, t.cell hn (hc j hj).2.1, t.cell hn (hc j hj).2.2⟩⟩
theorem keepN_le (f : FileV) (x : FateV) : keepN f x ≤ (looseB f).size := by
  unfold keepN
  split
  · exact Nat.zero_le _
  · split <;> omega
theorem turnedL_length (f : FileV) (x : FateV) : (turnedL f x).length = keepN f x := by
  have h := keepN_le f x
  have hl : (keptL f x).length = keepN f x := by
    unfold keptL
    rw [List.length_take, bytesOf_length]
    omega
  unfold turnedL
  split
  · rw [List.length_set, hl]
  · exact hl
theorem fall_size (f : FileV) (x : FateV) (h0 : 0 ≤ f.sure) (h1 : f.sure ≤ (f.s.size : Int)) : (fallF f x).s.size ≤ f.s.size ∧ 0 ≤ (fallF f x).sure ∧ (fallF f x).sure ≤ ((fallF f x).s.size : Int) := by
  have h2 := keepN_le f x
  have h3 := looseB_size f h0 h1
  refine ⟨?_, ?_, Int.le_refl _⟩
  · unfold fallF
    simp only [ByteArray.size_append, strOfNums_size, turnedL_length, ByteArray.size_extract]
    omega
  · exact Int.natCast_nonneg _
theorem upd_map {l : Files} {n : ByteArray} {f : FileV} (h : (find l n).isSome) : (upd l n f).map (·.1) = l.map (·.1) := by rw [upd_names, if_pos h]
theorem find_isSome {l : Files} {n : ByteArray} : (find l n).isSome ↔ n ∈ l.map (·.1) := by
  have := @find_none l n
  cases hf : find l n with
  | none => simp [this.1 hf]
  | some f =>
    simp only [Option.isSome_some, true_iff]
    refine Classical.byContradiction fun hne => ?_
    rw [this.2 hne] at hf
    cases hf
theorem crashOne_map {fates : List FateV} {s : Files × Nat} {x : List UInt8} (h : (⟨x.toArray⟩ : ByteArray) ∈ s.1.map (·.1)) : (crashOne fates s x).1.map (·.1) = s.1.map (·.1) := by
  unfold crashOne
  split
  · rfl
  · exact upd_map (find_isSome.2 h)
theorem crashOne_le (fates : List FateV) (s : Files × Nat) (x : List UInt8) : (crashOne fates s x).2 ≤ s.2 + 1 := by
  unfold crashOne
  split
  · omega
  · exact Nat.le_refl _
theorem crashOne_good {k : Dk} {fates : List FateV} {s : Files × Nat} {x : List UInt8} (h : (⟨x.toArray⟩ : ByteArray) ∈ s.1.map (·.1)) (g : Good { k with files := s.1 }) : Good { k with files := (crashOne fates s x).1 } := by
  unfold crashOne
  split
  · exact g
  · have hs := find_isSome.2 h
    obtain ⟨f, hf⟩ := Option.isSome_iff_exists.1 hs
    have hff := g.find (n := ⟨x.toArray⟩) hf
    have hfs := fall_size f (fates.getD s.2 zeroFate) hff.2.2.1 hff.2.2.2
    have hu := usedN_upd g.nodup ⟨x.toArray⟩ (fallF f (fates.getD s.2 zeroFate))
    have gu := g.used
    simp only [hf, Option.getD_some] at hu ⊢
    refine g.upd ⟨x.toArray⟩ _ hff.1 (.inl hs) ?_ hfs.2
    show usedN (upd s.1 _ _) ≤ 16777216
    change usedN s.1 ≤ 16777216 at gu
    omega
theorem crashGo_snoc (fates : List FateV) (l : Files) (ns : List (List UInt8)) (x : List UInt8) : crashGo fates l (ns ++ [x]) = crashOne fates (crashGo fates l ns) x := by
  unfold crashGo
  rw [List.foldl_append]
  rfl
theorem crashGo_part {k : Dk} (fates : List FateV) (g : Good k) (j : Nat) (hj : j ≤ k.files.length) : Good { k with files := (crashGo fates k.files ((listed k.files).take j)).1 } ∧ (crashGo fates k.files ((listed k.files).take j)).1.map (·.1) = k.files.map (·.1) ∧ (crashGo fates k.files ((listed k.files).take j)).2 ≤ j := by
  induction j with
  | zero => exact ⟨g, rfl, Nat.le_refl _⟩
  | succ j ih =>
    obtain ⟨i1, i2, i3⟩ := ih (by omega)
    have hl2 : j < (listed k.files).length := by rw [listed_length]; omega
    rw [List.take_succ_eq_append_getElem hl2, crashGo_snoc]
    have hm : (⟨(listed k.files)[j].toArray⟩ : ByteArray) ∈ (crashGo fates k.files ((listed k.files).take j)).1.map (·.1) := by
      rw [i2, ← mem_listed]
      exact List.getElem_mem hl2
    exact ⟨crashOne_good hm i1, (crashOne_map hm).trans i2, Nat.le_trans (crashOne_le _ _ _) (by omega)⟩
theorem put_end {w : World} {p m : Nat} {k : Dk} (h : IsDisk w p m k) : IsDisk (((w.setCell ⟨p, 5, none⟩ (.bool false)).setCell ⟨p, 3, none⟩ (.int .i64 (-1))).setCell ⟨p, 4, none⟩ (.int .i64 (-1))) p m { k with down := false, fuse := -1, fault := -1 } :=
  ((h.put (k' := { k with down := false }) 5 _ (by simp [cells]) rfl).put (k' := { k with down := false, fuse := -1 }) 3 _ (by simp [cells]) rfl).put 4 _ (by simp [cells]) rfl
set_option maxRecDepth 100000 in
theorem crash_on {w : World} {p m : Nat} {k : Dk} (h : IsDisk w p m k) (g : Good k) (A : Option Addr) (fs : List FateV) (cf : Nat) (hfs : FatesAt w p m A fs) (hfl : fs.length ≤ 1000000) (hft : ∀ x ∈ fs, x.turn < 256) :
    Calls Try.prog 16 #[dp p, .slice A fs.length cf] w (SetPost p m (crashK k fs) w) := by
  have H := Hush.mk h
  have HG := Hush.mk g
  have HFS := Hush.mk hfs
  have HFT := Hush.mk hft
  clear h g hfs hft
  go_enter Try.func16, Try.ntmps16
  go_wp2_with fail
  refine (list_on H.out (by have := HG.out.few; omega)).mono ?_
  rintro e w1 ⟨v, rfl, ho, hv, hb⟩
  have H1 := Hush.mk (H.out.below hb)
  have HB := Hush.mk hb
  clear hb
  by_cases he : k.files = []
  · obtain rfl := hv.2 he
    have c5 := H1.out.c5
    have c3 := H1.out.c3
    have c4 := H1.out.c4
    have f5 := H1.out.fr 5
    have f3 := H1.out.fr 3
    have f4 := H1.out.fr 4
    have HE := Hush.mk he
    clear he hv ho
    go_wp2
    refine wp_loop_rounds 1 ?_
    rw [rounds_succ]
    go_wp2
    refine bodyPost_end (v := .tuple #[]) (by simp [results, Try.results16, go_sem]) rfl ⟨rfl, ?_, (touch_b HB.out).trans (touch_p (touch_three _ _ _ _ _ _ _ _))⟩
    have e1 : crashK k fs = { k with down := false, fuse := -1, fault := -1 } := by unfold crashK; rw [show listed k.files = [] from by rw [HE.out]; simp [listed, names]]; rfl
    rw [e1]
    exact put_end H1.out
  · obtain ⟨hlen, hv' | ⟨gb, cap, cur, rfl, hbase, hgb, hcap, hmax, hsz, htk⟩⟩ := ho
    · exact absurd (hv.1 hv'.1) he
    · have hL : k.files.length ≤ 200 := HG.out.few
      have hC : ∀ i, i < k.files.length → w1.cell? ((⟨gb, 0, none⟩ : Addr).add i) = some (encStr ((listed k.files).getD i [])) := by
        intro i hi
        have ho2 : w1.ownsRow w.heap.size 9 1 (.slice (some ⟨gb, 0, none⟩) k.files.length cap) k.files.length ((listed k.files).map encStr) := ⟨hlen, .inr ⟨gb, cap, cur, rfl, hbase, hgb, hcap, hmax, hsz, htk⟩⟩
        refine ho2.cells (g := gb) rfl i _ ?_
        rw [List.getElem?_map, List.getD_eq_getElem?_getD, List.getElem?_eq_getElem (by rw [listed_length]; exact hi)]
        rfl
      have HC := Hush.mk hC
      have hpos : 0 < k.files.length := List.length_pos_iff.2 he
      have hgp : ¬ own2 p m gb := by
        have h1 := H.out.lt.1
        have h2 := H.out.lt.2.1
        rintro (rfl | rfl) <;> omega
      have HGP := Hush.mk hgp
      have HF1 : Hush (FatesAt w1 p m A fs) := ⟨HFS.out.touch (touch_b HB.out)⟩
      clear hv he hlen htk hsz hC hgp
      go_wp2
      go_loopw [4, 13] (fun kv iv wr => ∃ j : Nat, j ≤ k.files.length ∧ iv = .int .i64 (j : Nat) ∧ kv = .int .i64 ((crashGo fs k.files ((listed k.files).take j)).2 : Nat) ∧ Hush (IsDisk wr p m { k with files := (crashGo fs k.files ((listed k.files).take j)).1 } ∧ Touch (own2 p m) w1 wr)) (fun _ iv _ => k.files.length - (intOf iv).toNat)
      case atStart => exact ⟨0, Nat.zero_le _, rfl, rfl, ⟨H1.out, Touch.refl _ _⟩⟩
      case round =>
        obtain ⟨j, hj, rfl, rfl, HR⟩ := hrel
        obtain ⟨g1, g2, g3⟩ := crashGo_part fs HG.out j hj
        by_cases hlt : j < k.files.length
        · have hl2 : j < (listed k.files).length := by rw [listed_length]; exact hlt
          obtain ⟨x, hx⟩ : ∃ x, x = (listed k.files)[j] := ⟨_, rfl⟩
          have hts : (listed k.files).take (j + 1) = (listed k.files).take j ++ [x] := by rw [List.take_succ_eq_append_getElem hl2, hx]
          have hxm : x ∈ listed k.files := hx ▸ List.getElem_mem hl2
          have hc := HR.out.2.cell (a := (⟨gb, 0, none⟩ : Addr).add j) (by rw [add_plain]; exact HGP.out) (HC.out j hlt)
          rw [add_plain, List.getD_eq_getElem?_getD, List.getElem?_eq_getElem hl2] at hc
          simp only [Option.getD_some] at hc
          rw [← hx] at hc
          change _ = some (Value.string ⟨x.toArray⟩) at hc
          have HN : Hush (crashGo fs k.files ((listed k.files).take (j + 1)) = crashOne fs (crashGo fs k.files ((listed k.files).take j)) x) := ⟨by rw [hts, crashGo_snoc]⟩
          have HXM : Hush ((⟨x.toArray⟩ : ByteArray) ∈ (crashGo fs k.files ((listed k.files).take j)).1.map (·.1)) := ⟨by rw [g2, ← mem_listed]; exact hxm⟩
          have HSZ : Hush ((⟨x.toArray⟩ : ByteArray).size ≤ maxLen) := ⟨by have := HG.out.lenName hxm; unfold maxLen; omega⟩
          generalize crashGo fs k.files ((listed k.files).take j) = st at HR HN HXM g1 g2 g3 ⊢
          obtain ⟨F, c⟩ := st
          have HG1 := Hush.mk g1
          have HC1 : Hush (crashOne fs (F, c) x = if looseF ((find F ⟨x.toArray⟩).getD noFile) = 0 then (F, c) else (upd F ⟨x.toArray⟩ (fallF ((find F ⟨x.toArray⟩).getD noFile) (fs.getD c zeroFate)), c + 1)) := ⟨rfl⟩
          rw [HC1.out] at HN
          obtain ⟨nm, hnm⟩ : ∃ nm : ByteArray, nm = ⟨x.toArray⟩ := ⟨_, rfl⟩
          rw [← hnm] at hc HXM HSZ HN
          have g3' : c ≤ j := g3
          clear hts hxm hx g1 g2 HC1 hnm g3
          go_wp2_with fail
          refine (loose_on HR.out.1 nm HSZ.out).mono ?_
          rintro e w4 ⟨rfl, hb4⟩
          have H4 := Hush.mk (HR.out.1.below hb4)
          have T4 := Hush.mk (HR.out.2.trans (touch_b (p := p) (m := m) hb4))
          clear hb4 hc
          unfold looseN
          have hgd := HG1.out.getD nm
          change ((find F nm).getD noFile).s.size ≤ 16777216 ∧ 0 ≤ ((find F nm).getD noFile).sure ∧ ((find F nm).getD noFile).sure ≤ (((find F nm).getD noFile).s.size : Int) at hgd
          have HLK : Hush (∀ W, IsDisk W p m { k with files := F } → (Instr.lookup 53 (.map (some m)) (.string nm) false).run Try.prog W = .ok (fileVal ((find F nm).getD noFile)) W) := ⟨fun W hW => hW.look nm HSZ.out⟩
          have HFL : Hush (F.length ≤ 200) := ⟨HG1.out.few⟩
          change Hush (_ = if looseF ((find F nm).getD noFile) = 0 then _ else _) at HN
          show (match Ending.returned (Value.int IntKind.i64 (looseF ((find F nm).getD noFile))), w4 with | e, w' => _) 
          generalize (find F nm).getD noFile = f at HN HLK hgd ⊢
          have HGD := Hush.mk hgd
          clear hgd
          by_cases hz : looseF f = 0
          · have HN2 : Hush (crashGo fs k.files ((listed k.files).take (j + 1)) = (F, c)) := ⟨by rw [HN.out, if_pos hz]⟩
            have hzb : (looseF f == 0) = true := by simpa using hz
            clear hz
            go_wp2
            go_roundw
            case rel => exact ⟨j + 1, by omega, by go_num, by rw [HN2.out], ⟨by rw [HN2.out]; exact H4.out, T4.out⟩⟩
            case measure => simp [intOf]; omega
          · have HN2 : Hush (crashGo fs k.files ((listed k.files).take (j + 1)) = (upd F nm (fallF f (fs.getD c zeroFate)), c + 1)) := ⟨by rw [HN.out, if_neg hz]⟩
            have hzb : (looseF f == 0) = false := by simpa using hz
            clear hz
            have HF4 := Hush.mk (HF1.out.touch T4.out)
            by_cases hcl : c < fs.length
            · obtain ⟨fb, fo, rfl, hap, ham, hcells⟩ := HF4.out (by omega)
              have HX := Hush.mk (HFT.out _ (show fs.getD c zeroFate ∈ fs by rw [List.getD_eq_getElem?_getD, List.getElem?_eq_getElem hcl]; exact List.getElem_mem hcl))
              have bx := fun i v (h : w4.cell? ⟨fb, i, none⟩ = some v) => (((Below.refl _ w4).alloc (Nat.le_refl _) (.cells #[.int .i64 0, .int .i64 0, .int .u8 0] 34)).cell (p := ⟨fb, i, none⟩) (World.block_lt_of_cell? w4 _ h)).trans h
              obtain ⟨q0, q1, q2⟩ := hcells c hcl
              have r0 := bx _ _ q0
              have r1 := bx _ _ q1
              have r2 := bx _ _ q2
              generalize fs.getD c zeroFate = xf at HN2 HX q0 q1 q2 r0 r1 r2
              obtain ⟨keep, at_, turn⟩ := xf
              simp only at q0 q1 q2 r0 r1 r2
              have hcl2 : (c : Int) < (fs.length : Int) := by omega
              clear q0 q1 q2 bx hcells hap ham
              go_wp2
              have H6 := H4.out.alloc (.cells #[.int .i64 keep, .int .i64 at_, .int .u8 (turn : Nat)] 34)
              have T6 : Touch (own2 p m) w1 (w4.alloc (.cells #[.int .i64 keep, .int .i64 at_, .int .u8 (turn : Nat)] 34)) := T4.out.trans (Touch.alloc _ _)
              have hb0 : (w4.alloc (.cells #[.int .i64 keep, .int .i64 at_, .int .u8 (turn : Nat)] 34)).heap[w4.heap.size]? = some (.cells #[.int .i64 keep, .int .i64 at_, .int .u8 (turn : Nat)] 34 (0, 0)) := World.alloc_heap_new _ _
              generalize w4.alloc (.cells #[.int .i64 keep, .int .i64 at_, .int .u8 (turn : Nat)] 34) = w6 at H6 T6 hb0 ⊢
              have HFALL := Hush.mk (fall_on f ⟨keep, at_, turn⟩ w6.drew HGD.out.2.1 HGD.out.2.2 HGD.out.1 HX.out)
              have HST : Hush (∀ W, IsDisk W p m { k with files := F } → ∃ w', (Instr.mapUpdate 53 (.map (some m)) (.string nm) (fileVal (fallF f ⟨keep, at_, turn⟩))).run Try.prog W = .ok () w' ∧ IsDisk w' p m { k with files := upd F nm (fallF f ⟨keep, at_, turn⟩) } ∧ W.grownBy w' (some m)) := ⟨fun W hW => hW.store nm HSZ.out _ (by have := HFL.out; show F.length < 1000000; omega)⟩
              generalize fallF f ⟨keep, at_, turn⟩ = fr at HN2 HFALL HST
              simp only [fileVal, fateVal] at HFALL HST HLK
              have hb1 : w6.drew.heap[w4.heap.size]? = some (.cells #[.int .i64 keep, .int .i64 at_, .int .u8 (turn : Nat)] 34 (0, 0)) := hb0
              have H7 := Hush.mk H6.drew
              have HB1 := Hush.mk hb1
              have hcell : ∀ W : World, W.heap[w4.heap.size]? = some (.cells #[.int .i64 keep, .int .i64 at_, .int .u8 (turn : Nat)] 34 (0, 0)) → W.cell? ⟨w4.heap.size, 0, none⟩ = some (.int .i64 keep) ∧ W.cell? ⟨w4.heap.size, 1, none⟩ = some (.int .i64 at_) ∧ W.cell? ⟨w4.heap.size, 2, none⟩ = some (.int .u8 (turn : Nat)) := fun W h => ⟨by simp [World.cell?, h], by simp [World.cell?, h], by simp [World.cell?, h]⟩
              have HCELL := Hush.mk hcell
              have T7 := Hush.mk (T6.trans (Touch.drew (S := own2 p m) w6))
              have hlk := HLK.out _ H7.out
              have HNM : Hush (w4.heap.size ≠ m) := ⟨by have := H4.out.lt.2.1; omega⟩
              clear H6 T6 hb0 hb1 hcell
              go_region_held3 (fun w' => w'.cell? ⟨p, 0, none⟩ = some (.map (some m)) ∧ w'.cell? ⟨w4.heap.size, 0, none⟩ = some (.int .i64 keep) ∧ w'.cell? ⟨w4.heap.size, 1, none⟩ = some (.int .i64 at_) ∧ w'.cell? ⟨w4.heap.size, 2, none⟩ = some (.int .u8 (turn : Nat)))
                (first | exact ⟨hi8.c0, HCELL.out _ ((hg8.block w4.heap.size (Nat.lt_of_lt_of_le (Array.getElem?_eq_some_iff.1 HB1.out).1 hb7.size) (fun e => HNM.out (by cases e; rfl))).trans ((hb7.block w4.heap.size (Array.getElem?_eq_some_iff.1 HB1.out).1).trans HB1.out))⟩ | exact ⟨H7.out.c0, HCELL.out _ HB1.out⟩ | exact ⟨(H7.out.below (by assumption)).c0, HCELL.out _ ((Below.block (by assumption) w4.heap.size (Array.getElem?_eq_some_iff.1 HB1.out).1).trans HB1.out)⟩)
                (((go_at_call 35; refine HFALL.out.mono ?_; rintro e w7 ⟨rfl, hb7⟩; obtain ⟨w8, hst, hi8, hg8⟩ := HST.out w7 (H7.out.below hb7))))
              have HN3 : Hush (IsDisk w8 p m { k with files := (crashGo fs k.files ((listed k.files).take (j + 1))).1 } ∧ Touch (own2 p m) w1 w8) := ⟨by rw [HN2.out]; exact hi8, T7.out.trans ((touch_b hb7).trans (Touch.of_grown hg8 (.inr rfl)))⟩
              clear hb7 hi8 hg8 hst hlk
              go_wp2
              go_roundw
              case rel => exact ⟨j + 1, by omega, by go_num, by rw [HN2.out]; go_num, HN3⟩
              case measure => simp [intOf]; omega
            · have hcl2 : (fs.length : Int) ≤ (c : Int) := by omega
              have hz0 : fs.getD c zeroFate = ⟨0, 0, 0⟩ := by rw [List.getD_eq_getElem?_getD, List.getElem?_eq_none (by omega)]; rfl
              rw [hz0] at HN2
              clear hz0
              go_wp2
              have H6 := H4.out.alloc (.cells #[.int .i64 0, .int .i64 0, .int .u8 0] 34)
              have T6 : Touch (own2 p m) w1 (w4.alloc (.cells #[.int .i64 0, .int .i64 0, .int .u8 0] 34)) := T4.out.trans (Touch.alloc _ _)
              have hb0 : (w4.alloc (.cells #[.int .i64 0, .int .i64 0, .int .u8 0] 34)).heap[w4.heap.size]? = some (.cells #[.int .i64 0, .int .i64 0, .int .u8 0] 34 (0, 0)) := World.alloc_heap_new _ _
              generalize w4.alloc (.cells #[.int .i64 0, .int .i64 0, .int .u8 0] 34) = w6 at H6 T6 hb0 ⊢
              have HFALL := Hush.mk (fall_on f ⟨0, 0, 0⟩ w6.drew HGD.out.2.1 HGD.out.2.2 HGD.out.1 (show (0 : Nat) < 256 by decide))
              have HST : Hush (∀ W, IsDisk W p m { k with files := F } → ∃ w', (Instr.mapUpdate 53 (.map (some m)) (.string nm) (fileVal (fallF f ⟨0, 0, 0⟩))).run Try.prog W = .ok () w' ∧ IsDisk w' p m { k with files := upd F nm (fallF f ⟨0, 0, 0⟩) } ∧ W.grownBy w' (some m)) := ⟨fun W hW => hW.store nm HSZ.out _ (by have := HFL.out; show F.length < 1000000; omega)⟩
              generalize fallF f ⟨0, 0, 0⟩ = fr at HN2 HFALL HST
              simp only [fileVal, fateVal] at HFALL HST HLK
              have hb1 : w6.drew.heap[w4.heap.size]? = some (.cells #[.int .i64 0, .int .i64 0, .int .u8 0] 34 (0, 0)) := hb0
              have H7 := Hush.mk H6.drew
              have HB1 := Hush.mk hb1
              have hcell : ∀ W : World, W.heap[w4.heap.size]? = some (.cells #[.int .i64 0, .int .i64 0, .int .u8 0] 34 (0, 0)) → W.cell? ⟨w4.heap.size, 0, none⟩ = some (.int .i64 0) ∧ W.cell? ⟨w4.heap.size, 1, none⟩ = some (.int .i64 0) ∧ W.cell? ⟨w4.heap.size, 2, none⟩ = some (.int .u8 0) := fun W h => ⟨by simp [World.cell?, h], by simp [World.cell?, h], by simp [World.cell?, h]⟩
              have HCELL := Hush.mk hcell
              have T7 := Hush.mk (T6.trans (Touch.drew (S := own2 p m) w6))
              have hlk := HLK.out _ H7.out
              have HNM : Hush (w4.heap.size ≠ m) := ⟨by have := H4.out.lt.2.1; omega⟩
              clear H6 T6 hb0 hb1 hcell
              go_region_held3 (fun w' => w'.cell? ⟨p, 0, none⟩ = some (.map (some m)) ∧ w'.cell? ⟨w4.heap.size, 0, none⟩ = some (.int .i64 0) ∧ w'.cell? ⟨w4.heap.size, 1, none⟩ = some (.int .i64 0) ∧ w'.cell? ⟨w4.heap.size, 2, none⟩ = some (.int .u8 0))
                (first | exact ⟨hi8.c0, HCELL.out _ ((hg8.block w4.heap.size (Nat.lt_of_lt_of_le (Array.getElem?_eq_some_iff.1 HB1.out).1 hb7.size) (fun e => HNM.out (by cases e; rfl))).trans ((hb7.block w4.heap.size (Array.getElem?_eq_some_iff.1 HB1.out).1).trans HB1.out))⟩ | exact ⟨H7.out.c0, HCELL.out _ HB1.out⟩ | exact ⟨(H7.out.below (by assumption)).c0, HCELL.out _ ((Below.block (by assumption) w4.heap.size (Array.getElem?_eq_some_iff.1 HB1.out).1).trans HB1.out)⟩)
                (((go_at_call 35; refine HFALL.out.mono ?_; rintro e w7 ⟨rfl, hb7⟩; obtain ⟨w8, hst, hi8, hg8⟩ := HST.out w7 (H7.out.below hb7))))
              have HN3 : Hush (IsDisk w8 p m { k with files := (crashGo fs k.files ((listed k.files).take (j + 1))).1 } ∧ Touch (own2 p m) w1 w8) := ⟨by rw [HN2.out]; exact hi8, T7.out.trans ((touch_b hb7).trans (Touch.of_grown hg8 (.inr rfl)))⟩
              clear hb7 hi8 hg8 hst hlk
              go_wp2
              go_roundw
              case rel => exact ⟨j + 1, by omega, by go_num, by rw [HN2.out]; go_num, HN3⟩
              case measure => simp [intOf]; omega
        · have HFE : Hush (IsDisk wr p m { k with files := (crashGo fs k.files (listed k.files)).1 } ∧ Touch (own2 p m) w wr) := ⟨by
            have h := HR.out.1
            rw [List.take_of_length_le (by rw [listed_length]; omega)] at h
            exact h, (touch_b HB.out).trans HR.out.2⟩
          have c5 := HFE.out.1.c5
          have c3 := HFE.out.1.c3
          have c4 := HFE.out.1.c4
          have f5 := HFE.out.1.fr 5
          have f3 := HFE.out.1.fr 3
          have f4 := HFE.out.1.fr 4
          generalize (crashGo fs k.files ((listed k.files).take j)).2 = c at *
          go_wp2
          refine bodyPost_end (v := .tuple #[]) (by simp [results, Try.results16, go_sem]) rfl ⟨rfl, ?_, HFE.out.2.trans (touch_p (touch_three _ _ _ _ _ _ _ _))⟩
          exact put_end HFE.out.1
end Go.Proofs.Yteilnbnnhocciaa.D

/-! D17 -/
set_option linter.unusedVariables false
set_option linter.unusedSimpArgs false
namespace Go.Proofs.Yteilnbnnhocciaa.D
open Go.RowKit Go.Maps Go.ChangeMaps Go.MapKept Go.WideMaps Go.Proofs.YteilnbnnhocciaaW.PrintWords Go.Proofs.YteilnbnnhocciaaW.PrintLast Go.Proofs.YteilnbnnhocciaaW.PrintMore
attribute [local go_sem] max2_int min2_int max_two min_two max_three min_three max_four min_four
theorem rename_off {w : World} {p m : Nat} {k : Dk} (h : IsDisk w p m k) (n s : ByteArray) (hd : k.down = true) : Calls Try.prog 21 #[dp p, .string n, .string s] w (ActPost p m k 13 w) := by
  have H := Hush.mk h
  have HD := Hush.mk hd
  clear h hd
  go_enter Try.func21, Try.ntmps21
  go_wp2_with fail
  refine (may_off H.out HD.out).mono ?_
  rintro e w1 ⟨rfl, rfl⟩
  go_wp2
  go_ret
  exact ⟨rfl, H.out, Touch.refl _ _⟩
def renameOwn (k : Dk) (a b : ByteArray) : Int := if (find k.files a).isSome then (if isName b then 0 else 12) else 16
def renameK (k : Dk) (a b : ByteArray) : Dk := if stepE k (renameOwn k a b) = 0 then { stepK k (renameOwn k a b) with files := upd (gone k.files a) b ((find k.files a).getD noFile) } else stepK k (renameOwn k a b)
theorem rename_bad {w : World} {p m : Nat} {k : Dk} (h : IsDisk w p m k) (g : Good k) (a b : ByteArray) (ha : a.size ≤ maxLen) (hb : b.size ≤ maxLen) (hd : k.down = false) (hf : (find k.files a).isSome) (hnb : isName b = false) :
    Calls Try.prog 21 #[dp p, .string a, .string b] w (ActPost p m (renameK k a b) (stepE k (renameOwn k a b)) w) := by
  have H := Hush.mk h
  have HD := Hush.mk hd
  have HA := Hush.mk ha
  have HB := Hush.mk hb
  have HNB := Hush.mk hnb
  have e0 : thereE k a = 0 := by unfold thereE; rw [if_pos hf]
  have E0 := Hush.mk e0
  have HO : Hush (renameOwn k a b = 12) := ⟨by unfold renameOwn; rw [if_pos hf, hnb]; rfl⟩
  clear h hd ha hb hnb hf e0
  go_enter Try.func21, Try.ntmps21
  go_wp2_with fail
  refine (may_on H.out HD.out).mono ?_
  rintro e w1 ⟨rfl, rfl⟩
  go_wp2_with fail
  refine (there_any H.out a HA.out).mono ?_
  rintro e w3 ⟨rfl, hb3⟩
  rw [E0.out]
  have H3 := Hush.mk (H.out.below hb3)
  have T3 := Hush.mk (touch_b (p := p) (m := m) hb3)
  clear hb3
  go_wp2_with fail
  refine (named_is b _ HB.out).mono ?_
  rw [HNB.out]
  rintro e w4 ⟨rfl, hb4⟩
  have H4 := Hush.mk (H3.out.below hb4)
  have T4 := Hush.mk (T3.out.trans (touch_b (p := p) (m := m) hb4))
  clear hb4
  go_wp2_with fail
  refine (step_own H4.out 12 (by decide)).mono ?_
  rintro e w5 ⟨rfl, hi, ht⟩
  have e3 : stepE k 12 = 12 := by simp [stepE]
  have k3 : stepK k 12 = k := by simp [stepK]
  rw [k3] at hi
  rw [e3]
  have HP : Hush (ActPost p m (renameK k a b) (stepE k (renameOwn k a b)) w1 (.returned (.int .i64 12)) w5) := ⟨by
    rw [renameK, HO.out, e3, if_neg (by decide), k3]
    exact ⟨rfl, hi, T4.out.trans (touch_p ht)⟩⟩
  clear hi ht e3 k3
  go_wp2
  go_ret
  exact HP.out
theorem rename_none {w : World} {p m : Nat} {k : Dk} (h : IsDisk w p m k) (a b : ByteArray) (ha : a.size ≤ maxLen) (hd : k.down = false) (hf : ¬ (find k.files a).isSome) :
    Calls Try.prog 21 #[dp p, .string a, .string b] w (ActPost p m (renameK k a b) (stepE k (renameOwn k a b)) w) := by
  have H := Hush.mk h
  have HD := Hush.mk hd
  have HA := Hush.mk ha
  have e0 : thereE k a = 16 := by unfold thereE; rw [if_neg hf]
  have E0 := Hush.mk e0
  have HO : Hush (renameOwn k a b = 16) := ⟨by unfold renameOwn; rw [if_neg hf]⟩
  clear h hd ha hf e0
  go_enter Try.func21, Try.ntmps21
  go_wp2_with fail
  refine (may_on H.out HD.out).mono ?_
  rintro e w1 ⟨rfl, rfl⟩
  go_wp2_with fail
  refine (there_any H.out a HA.out).mono ?_
  rintro e w3 ⟨rfl, hb3⟩
  rw [E0.out]
  have H3 := Hush.mk (H.out.below hb3)
  have T3 := Hush.mk (touch_b (p := p) (m := m) hb3)
  clear hb3
  go_wp2_with fail
  refine (step_own H3.out 16 (by decide)).mono ?_
  rintro e w5 ⟨rfl, hi, ht⟩
  have e3 : stepE k 16 = 16 := by simp [stepE]
  have k3 : stepK k 16 = k := by simp [stepK]
  rw [k3] at hi
  rw [e3]
  have HP : Hush (ActPost p m (renameK k a b) (stepE k (renameOwn k a b)) w1 (.returned (.int .i64 16)) w5) := ⟨by
    rw [renameK, HO.out, e3, if_neg (by decide), k3]
    exact ⟨rfl, hi, T3.out.trans (touch_p ht)⟩⟩
  clear hi ht e3 k3
  go_wp2
  go_ret
  exact HP.out
set_option maxRecDepth 100000 in
theorem rename_ok {w : World} {p m : Nat} {k : Dk} (h : IsDisk w p m k) (g : Good k) (a b : ByteArray) (ha : a.size ≤ maxLen) (hb : b.size ≤ maxLen) (hd : k.down = false) (hf : (find k.files a).isSome) (hnb : isName b = true) :
    Calls Try.prog 21 #[dp p, .string a, .string b] w (ActPost p m (renameK k a b) (stepE k (renameOwn k a b)) w) := by
  have H := Hush.mk h
  have HD := Hush.mk hd
  have HG := Hush.mk g
  have HA := Hush.mk ha
  have HB := Hush.mk hb
  have HNB := Hush.mk hnb
  have e0 : thereE k a = 0 := by unfold thereE; rw [if_pos hf]
  have E0 := Hush.mk e0
  have HO : Hush (renameOwn k a b = 0) := ⟨by unfold renameOwn; rw [if_pos hf, hnb]; rfl⟩
  clear h hd ha hb hnb hf e0 g
  go_enter Try.func21, Try.ntmps21
  go_wp2_with fail
  refine (may_on H.out HD.out).mono ?_
  rintro e w1 ⟨rfl, rfl⟩
  go_wp2_with fail
  refine (there_any H.out a HA.out).mono ?_
  rintro e w3 ⟨rfl, hb3⟩
  rw [E0.out]
  have H3 := Hush.mk (H.out.below hb3)
  have T3 := Hush.mk (touch_b (p := p) (m := m) hb3)
  clear hb3
  go_wp2_with fail
  refine (named_is b _ HB.out).mono ?_
  rw [HNB.out]
  rintro e w4 ⟨rfl, hb4⟩
  have H4 := Hush.mk (H3.out.below hb4)
  have T4 := Hush.mk (T3.out.trans (touch_b (p := p) (m := m) hb4))
  clear hb4
  go_wp2_with fail
  refine (step_any H4.out 0 HG.out.fuse HG.out.fault).mono ?_
  rintro e w5 ⟨rfl, hi, ht⟩
  have H5 := Hush.mk hi
  have T5 := Hush.mk (T4.out.trans (touch_p ht))
  have HFI := Hush.mk (step_files (k := k) 0)
  have HK : Hush (renameK k a b = if stepE k 0 = 0 then { stepK k 0 with files := upd (gone k.files a) b ((find k.files a).getD noFile) } else stepK k 0) := ⟨by rw [renameK, HO.out]⟩
  clear hi ht
  obtain ⟨r, hE⟩ : ∃ r, r = stepE k 0 := ⟨_, rfl⟩
  rw [← hE] at HK ⊢
  have HE := Hush.mk hE
  clear hE
  by_cases hr : r = 0
  · subst hr
    have hlk := H5.out.look a HA.out
    rw [HFI.out.1] at hlk
    generalize (find k.files a).getD noFile = f at hlk HK
    simp only [fileVal] at hlk
    have c0 := H5.out.c0
    have H6 := H5.out.alloc (.cells #[.string f.s, .int .i64 f.sure] 60)
    have T6 : Touch (own2 p m) w1 (w5.alloc (.cells #[.string f.s, .int .i64 f.sure] 60)) := T5.out.trans (Touch.alloc _ _)
    have hb0 : (w5.alloc (.cells #[.string f.s, .int .i64 f.sure] 60)).heap[w5.heap.size]? = some (.cells #[.string f.s, .int .i64 f.sure] 60 (0, 0)) := World.alloc_heap_new _ _
    obtain ⟨w7, hdel, hi7, hg7⟩ := H6.drop a HA.out 0
    have c6 := H6.c0
    have hsz6 : w5.heap.size < (w5.alloc (.cells #[.string f.s, .int .i64 f.sure] 60)).heap.size := by simp
    have hmne : w5.heap.size ≠ m := by have := H5.out.lt.2.1; omega
    have hb7 : w7.drew.heap[w5.heap.size]? = some (.cells #[.string f.s, .int .i64 f.sure] 60 (0, 0)) := (hg7.block _ hsz6 (fun e => hmne (by cases e; rfl))).trans hb0
    have c7 := hi7.c0
    have hlen : (gone (stepK k 0).files a).length < 1000000 := by
      rw [HFI.out.1]
      have := List.length_filter_le (fun x : ByteArray × FileV => decide (x.1 ≠ a)) k.files
      have := HG.out.few
      show (gone k.files a).length < 1000000
      unfold gone
      omega
    obtain ⟨w8, hst, hi8, hg8⟩ := hi7.drew.store b HB.out f hlen
    have d0 := hi7.drew.c0
    have b0 : w7.drew.cell? ⟨w5.heap.size, 0, none⟩ = some (.string f.s) := by simp [World.cell?, hb7]
    have b1 : w7.drew.cell? ⟨w5.heap.size, 1, none⟩ = some (.int .i64 f.sure) := by simp [World.cell?, hb7]
    simp only [fileVal] at hst
    have HX : Hush (IsDisk w8 p m (renameK k a b) ∧ Touch (own2 p m) w1 w8) := ⟨by
      rw [HK.out, if_pos rfl]
      rw [HFI.out.1] at hi8
      exact hi8, (T6.trans (Touch.of_grown hg7 (.inr rfl))).trans ((Touch.drew _).trans (Touch.of_grown hg8 (.inr rfl)))⟩
    clear H6 T6 hb0 hi7 hg7 hsz6 hmne hb7 hlen hi8 hg8
    go_wp2
    go_still_tail 6, (by kernel_rfl)
    change wpList _ _ _ _ _ w7.drew
    clear c7 hdel c6
    generalize w7.drew = w9 at d0 b0 b1 hst ⊢
    go_wp2
    go_ret
    exact ⟨by rw [HO.out, ← HE.out]; rfl, HX.out.1, HX.out.2⟩
  · have hrb : (r != 0) = true := by simpa using hr
    have HI2 : Hush (IsDisk w5 p m (renameK k a b)) := ⟨by rw [HK.out, if_neg hr]; exact H5.out⟩
    clear hr
    go_wp2
    go_ret
    exact ⟨by rw [HO.out, ← HE.out]; rfl, HI2.out, T5.out⟩
theorem rename_on {w : World} {p m : Nat} {k : Dk} (h : IsDisk w p m k) (g : Good k) (a b : ByteArray) (ha : a.size ≤ maxLen) (hb : b.size ≤ maxLen) (hd : k.down = false) :
    Calls Try.prog 21 #[dp p, .string a, .string b] w (ActPost p m (renameK k a b) (stepE k (renameOwn k a b)) w) := by
  by_cases hf : (find k.files a).isSome
  · cases hn : isName b with
    | true => exact rename_ok h g a b ha hb hd hf hn
    | false => exact rename_bad h g a b ha hb hd hf hn
  · exact rename_none h a b ha hd hf
end Go.Proofs.Yteilnbnnhocciaa.D

/-! D30 -/
set_option linter.unusedVariables false
set_option linter.unusedSimpArgs false
namespace Go.Proofs.Yteilnbnnhocciaa.D
open Go.RowKit Go.Maps Go.ChangeMaps Go.MapKept Go.WideMaps Go.Sort Go.Proofs.YteilnbnnhocciaaW.PrintWords Go.Proofs.YteilnbnnhocciaaW.PrintLast Go.Proofs.YteilnbnnhocciaaW.PrintMore
def fcells (x : ByteArray × FileV) : List Value := [.string x.1, .string x.2.s, .int .i64 x.2.sure]
def rowOf (l : Files) : List Value := l.flatMap fcells
def rcells (v : Value) (k : Dk) : Array Value := #[v, .int .i64 k.room, .int .i64 k.steps, .int .i64 k.fuse, .int .i64 k.fault, .bool k.down]
structure IsRef (w : World) (base q : Nat) (v : Value) (k : Dk) : Prop where
  row : w.heap[q]? = some (.cells (rcells v k) 68 (0, 0))
  own : w.ownsRow base 79 3 v k.files.length (rowOf k.files)
  ne : v.ownBlock ≠ some q
  ge : base ≤ q
theorem rowOf_app (a b : Files) : rowOf (a ++ b) = rowOf a ++ rowOf b := by simp [rowOf]
theorem rowOf_at (l : Files) (i : Nat) (x : ByteArray × FileV) (h : l[i]? = some x) : (rowOf l)[i * 3]? = some (.string x.1) ∧ (rowOf l)[i * 3 + 1]? = some (.string x.2.s) ∧ (rowOf l)[i * 3 + 2]? = some (.int .i64 x.2.sure) := by
  induction l generalizing i with
  | nil => simp at h
  | cons y l ih =>
    have e : rowOf (y :: l) = fcells y ++ rowOf l := by simp [rowOf]
    rw [e]
    cases i with
    | zero =>
      rw [List.getElem?_cons_zero] at h
      cases h
      simp [fcells]
    | succ i =>
      rw [List.getElem?_cons_succ] at h
      obtain ⟨h1, h2, h3⟩ := ih i h
      have hl : (fcells y).length = 3 := rfl
      rw [List.getElem?_append_right (by rw [hl]; omega), List.getElem?_append_right (by rw [hl]; omega), List.getElem?_append_right (by rw [hl]; omega), hl, show (i + 1) * 3 - 3 = i * 3 from by omega, show (i + 1) * 3 + 1 - 3 = i * 3 + 1 from by omega, show (i + 1) * 3 + 2 - 3 = i * 3 + 2 from by omega]
      exact ⟨h1, h2, h3⟩
theorem rowOf_set1 (l : Files) (i : Nat) (x : ByteArray × FileV) (h : l[i]? = some x) (s : ByteArray) : (rowOf l).set (i * 3 + 1) (.string s) = rowOf (l.set i (x.1, ⟨s, x.2.sure⟩)) := by
  induction l generalizing i with
  | nil => simp at h
  | cons y l ih =>
    have e : ∀ (z : ByteArray × FileV) (l : Files), rowOf (z :: l) = fcells z ++ rowOf l := fun z l => by simp [rowOf]
    cases i with
    | zero =>
      rw [List.getElem?_cons_zero] at h
      cases h
      rw [List.set_cons_zero, e, e]
      rfl
    | succ i =>
      rw [List.getElem?_cons_succ] at h
      rw [List.set_cons_succ, e, e, List.set_append_right _ _ (show (fcells y).length ≤ _ by show 3 ≤ _; omega), show (i + 1) * 3 + 1 - (fcells y).length = i * 3 + 1 from by show _ - 3 = _; omega, ih i h]
theorem rowOf_set2 (l : Files) (i : Nat) (x : ByteArray × FileV) (h : l[i]? = some x) (n : Int) : (rowOf l).set (i * 3 + 2) (.int .i64 n) = rowOf (l.set i (x.1, ⟨x.2.s, n⟩)) := by
  induction l generalizing i with
  | nil => simp at h
  | cons y l ih =>
    have e : ∀ (z : ByteArray × FileV) (l : Files), rowOf (z :: l) = fcells z ++ rowOf l := fun z l => by simp [rowOf]
    cases i with
    | zero =>
      rw [List.getElem?_cons_zero] at h
      cases h
      rw [List.set_cons_zero, e, e]
      rfl
    | succ i =>
      rw [List.getElem?_cons_succ] at h
      rw [List.set_cons_succ, e, e, List.set_append_right _ _ (show (fcells y).length ≤ _ by show 3 ≤ _; omega), show (i + 1) * 3 + 2 - (fcells y).length = i * 3 + 2 from by show _ - 3 = _; omega, ih i h]
theorem IsRef.c0 {w : World} {base q : Nat} {v : Value} {k : Dk} (h : IsRef w base q v k) : w.cell? ⟨q, 0, none⟩ = some v := by simp [World.cell?, h.row, rcells]
theorem IsRef.c1 {w : World} {base q : Nat} {v : Value} {k : Dk} (h : IsRef w base q v k) : w.cell? ⟨q, 1, none⟩ = some (.int .i64 k.room) := by simp [World.cell?, h.row, rcells]
theorem IsRef.c2 {w : World} {base q : Nat} {v : Value} {k : Dk} (h : IsRef w base q v k) : w.cell? ⟨q, 2, none⟩ = some (.int .i64 k.steps) := by simp [World.cell?, h.row, rcells]
theorem IsRef.c3 {w : World} {base q : Nat} {v : Value} {k : Dk} (h : IsRef w base q v k) : w.cell? ⟨q, 3, none⟩ = some (.int .i64 k.fuse) := by simp [World.cell?, h.row, rcells]
theorem IsRef.c4 {w : World} {base q : Nat} {v : Value} {k : Dk} (h : IsRef w base q v k) : w.cell? ⟨q, 4, none⟩ = some (.int .i64 k.fault) := by simp [World.cell?, h.row, rcells]
theorem IsRef.c5 {w : World} {base q : Nat} {v : Value} {k : Dk} (h : IsRef w base q v k) : w.cell? ⟨q, 5, none⟩ = some (.bool k.down) := by simp [World.cell?, h.row, rcells]
theorem IsRef.fr {w : World} {base q : Nat} {v : Value} {k : Dk} (h : IsRef w base q v k) (i : Nat) : w.frozen? ⟨q, i, none⟩ = false := by simp [World.frozen?, h.row]
theorem IsRef.lt {w : World} {base q : Nat} {v : Value} {k : Dk} (h : IsRef w base q v k) : q < w.heap.size := (Array.getElem?_eq_some_iff.1 h.row).1
theorem IsRef.keep {S : Nat → Prop} {w w' : World} {base q : Nat} {v : Value} {k : Dk} (h : IsRef w base q v k) (t : Touch S w w') (hq : ¬ S q) (hv : ∀ g, v.ownBlock = some g → ¬ S g) : IsRef w' base q v k := by
  refine ⟨(t.block q h.lt hq).trans h.row, ?_, h.ne, h.ge⟩
  refine ⟨h.own.1, h.own.2.imp id ?_⟩
  rintro ⟨g, cap, cur, rfl, hb, hg, r⟩
  exact ⟨g, cap, cur, rfl, hb, (t.block g (Array.getElem?_eq_some_iff.1 hg).1 (hv g rfl)).trans hg, r⟩
theorem IsRef.below {w w' : World} {base q : Nat} {v : Value} {k : Dk} (h : IsRef w base q v k) (b : Below w.heap.size w w') : IsRef w' base q v k := h.keep (Touch.of_below (S := fun _ => False) b) (fun e => e) (fun _ _ e => e)
theorem IsRef.alloc {w : World} {base q : Nat} {v : Value} {k : Dk} (h : IsRef w base q v k) (o : Obj) : IsRef (w.alloc o) base q v k := h.below ((Below.refl _ w).alloc (Nat.le_refl _) o)
theorem IsRef.drew {w : World} {base q : Nat} {v : Value} {k : Dk} (h : IsRef w base q v k) : IsRef w.drew base q v k := ⟨h.row, h.own, h.ne, h.ge⟩
theorem IsRef.drewN {w : World} {base q : Nat} {v : Value} {k : Dk} (h : IsRef w base q v k) (n : Nat) : IsRef (w.drewN n) base q v k := ⟨h.row, h.own, h.ne, h.ge⟩
theorem IsRef.put {w : World} {base q : Nat} {v : Value} {k k' : Dk} (h : IsRef w base q v k) (i : Nat) (u : Value) (hc : (rcells v k).setIfInBounds i u = rcells v k') (hf : k'.files = k.files) : IsRef (w.setCell ⟨q, i, none⟩ u) base q v k' := by
  refine ⟨?_, ?_, h.ne, h.ge⟩
  · obtain ⟨hlt, hk⟩ := Array.getElem?_eq_some_iff.1 h.row
    show (w.heap.modify q _)[q]? = _
    rw [Array.getElem?_eq_getElem (by rw [Array.size_modify]; exact hlt), Array.getElem_modify_self, hk]
    simp [hc]
  · rw [hf]
    have hne := h.ne
    refine ⟨h.own.1, h.own.2.imp id ?_⟩
    rintro ⟨g, cap, cur, rfl, hb, hg, r⟩
    exact ⟨g, cap, cur, rfl, hb, (Below.heap_setCell w ⟨q, i, none⟩ u g (fun e => hne (by rw [e]; rfl))).trans hg, r⟩
theorem IsRef.swap {w : World} {base q : Nat} {v v' : Value} {k k' : Dk} (hrow : w.heap[q]? = some (.cells (rcells v k) 68 (0, 0))) (hge : base ≤ q) (hown : w.ownsRow base 79 3 v' k'.files.length (rowOf k'.files)) (hne : v'.ownBlock ≠ some q) (hc : rcells v' k = rcells v' k') : IsRef (w.setCell ⟨q, 0, none⟩ v') base q v' k' := by
  refine ⟨?_, ?_, hne, hge⟩
  · obtain ⟨hlt, hk⟩ := Array.getElem?_eq_some_iff.1 hrow
    show (w.heap.modify q _)[q]? = _
    rw [Array.getElem?_eq_getElem (by rw [Array.size_modify]; exact hlt), Array.getElem_modify_self, hk, ← hc]
    simp [rcells]
  · refine ⟨hown.1, hown.2.imp id ?_⟩
    rintro ⟨g, cap, cur, rfl, hb, hg, r⟩
    exact ⟨g, cap, cur, rfl, hb, (Below.heap_setCell w ⟨q, 0, none⟩ _ g (fun e => hne (by rw [e]; rfl))).trans hg, r⟩
theorem IsRef.at_ {w : World} {base q : Nat} {v : Value} {k : Dk} (h : IsRef w base q v k) (hl : 0 < k.files.length) : ∃ g cap, v = .slice (some ⟨g, 0, none⟩) k.files.length cap ∧ g ≠ q ∧ base ≤ g ∧ g < w.heap.size ∧ k.files.length ≤ cap ∧
    ∀ i x, k.files[i]? = some x → w.cell? ⟨g, i * 3, none⟩ = some (.string x.1) ∧ w.cell? ⟨g, i * 3 + 1, none⟩ = some (.string x.2.s) ∧ w.cell? ⟨g, i * 3 + 2, none⟩ = some (.int .i64 x.2.sure) ∧ w.frozen? ⟨g, i * 3 + 1, none⟩ = false ∧ w.frozen? ⟨g, i * 3 + 2, none⟩ = false := by
  obtain ⟨g, cap, hv, hb, hg⟩ := h.own.form hl
  have ho := h.own
  have hcap : k.files.length ≤ cap := by
    rcases ho.2 with ⟨e, _⟩ | ⟨g', cap', cur, e, _, _, h1, _⟩
    · rw [hv] at e; cases e
    · rw [hv] at e; cases e; exact h1
  rw [hv] at ho
  refine ⟨g, cap, hv, fun e => h.ne (by rw [hv, e]; rfl), hb, hg, hcap, fun i x hx => ?_⟩
  have hi : i < k.files.length := (List.getElem?_eq_some_iff.1 hx).1
  obtain ⟨r1, r2, r3⟩ := rowOf_at _ i x hx
  exact ⟨(ho.cellAt (i * 3) (by omega)).trans r1, (ho.cellAt (i * 3 + 1) (by omega)).trans r2, (ho.cellAt (i * 3 + 2) (by omega)).trans r3, ho.frozenAt _, ho.frozenAt _⟩
end Go.Proofs.Yteilnbnnhocciaa.D

/-! D31 -/
set_option linter.unusedVariables false
set_option linter.unusedSimpArgs false
namespace Go.Proofs.Yteilnbnnhocciaa.D
open Go.RowKit Go.Maps Go.ChangeMaps Go.MapKept Go.WideMaps Go.Sort Go.Proofs.YteilnbnnhocciaaW.PrintWords Go.Proofs.YteilnbnnhocciaaW.PrintLast Go.Proofs.YteilnbnnhocciaaW.PrintMore
theorem touch_two (w : World) (p i j : Nat) (a b : Value) : Touch (· = p) w ((w.setCell ⟨p, i, none⟩ a).setCell ⟨p, j, none⟩ b) :=
  (Touch.setCell (S := (· = p)) w ⟨p, i, none⟩ a rfl).trans (Touch.setCell _ ⟨p, j, none⟩ b rfl)
theorem rnew_no (room : Int) (w : World) (h : room < 0 ∨ 16777216 < room) : Calls Try.prog 25 #[.int .i64 room] w fun e w' => e = .returned (.pointer none) ∧ w' = w := by
  by_cases h1 : room < 0
  · clear h
    go_enter Try.func25, Try.ntmps25
    go_wp2
    go_ret
    exact ⟨rfl, rfl⟩
  · have h2 : 16777216 < room := by omega
    clear h
    go_enter Try.func25, Try.ntmps25
    go_wp2
    go_ret
    exact ⟨rfl, rfl⟩
theorem rnew_yes (room : Int) (w : World) (h0 : 0 ≤ room) (h1 : room ≤ 16777216) : Calls Try.prog 25 #[.int .i64 room] w fun e w' =>
    e = .returned (dp w.heap.size) ∧ IsRef w' w.heap.size w.heap.size (.slice none 0 0) (newDk room) ∧ Below w.heap.size w w' := by
  go_enter Try.func25, Try.ntmps25
  go_wp2
  go_ret
  refine ⟨rfl, ⟨World.alloc_heap_new w _, World.ownsRow_nil _ _ _ _, by simp [Value.ownBlock], Nat.le_refl _⟩, (Below.refl _ _).alloc (Nat.le_refl _) _⟩
def RStepPost (base q : Nat) (v : Value) (k : Dk) (own : Int) (w : World) (e : Ending) (w' : World) : Prop := e = .returned (.int .i64 (stepE k own)) ∧ IsRef w' base q v (stepK k own) ∧ Touch (· = q) w w'
theorem rstep_off {w : World} {base q : Nat} {v : Value} {k : Dk} (h : IsRef w base q v k) (own : Int) (hd : k.down = true) : Calls Try.prog 54 #[dp q, .int .i64 own] w fun e w' => e = .returned (.int .i64 13) ∧ w' = w := by
  have c := h.c5
  rw [hd] at c
  have H := Hush.mk h
  clear h hd
  go_enter Try.func54, Try.ntmps54
  go_wp2
  go_ret
  exact ⟨rfl, rfl⟩
theorem rstep_own {w : World} {base q : Nat} {v : Value} {k : Dk} (h : IsRef w base q v k) (own : Int) (hd : k.down = false) (ho : own ≠ 0) : Calls Try.prog 54 #[dp q, .int .i64 own] w (RStepPost base q v k own w) := by
  have c := h.c5
  rw [hd] at c
  have H := Hush.mk h
  have HO := Hush.mk ho
  have hb : (own != 0) = true := by simpa using ho
  clear h ho hd
  go_enter Try.func54, Try.ntmps54
  go_wp2
  go_ret
  exact ⟨by simp [stepE, HO.out], by simp only [stepK, if_pos HO.out]; exact H.out, Touch.refl _ _⟩
theorem rstep_fuse {w : World} {base q : Nat} {v : Value} {k : Dk} (h : IsRef w base q v k) (hd : k.down = false) (hf : k.fuse = 0) : Calls Try.prog 54 #[dp q, .int .i64 0] w (RStepPost base q v k 0 w) := by
  have c5 := h.c5
  rw [hd] at c5
  have c3 := h.c3
  have f5 := h.fr 5
  rw [hf] at c3
  have H := Hush.mk h
  have HF := Hush.mk hf
  clear h hf hd
  go_enter Try.func54, Try.ntmps54
  go_wp2
  go_ret
  exact ⟨by simp [stepE, HF.out], by rw [show stepK k 0 = { k with down := true } from by unfold stepK; rw [if_neg (by decide), if_pos HF.out]]; exact H.out.put 5 _ (by simp [rcells]) rfl, Touch.setCell _ _ _ rfl⟩
theorem rstep_fault {w : World} {base q : Nat} {v : Value} {k : Dk} (h : IsRef w base q v k) (hd : k.down = false) (hf : k.fuse ≠ 0) (hg : k.fault = 0) : Calls Try.prog 54 #[dp q, .int .i64 0] w (RStepPost base q v k 0 w) := by
  have c5 := h.c5
  rw [hd] at c5
  have c3 := h.c3
  have c4 := h.c4
  have f4 := h.fr 4
  rw [hg] at c4
  have H := Hush.mk h
  have HF := Hush.mk hf
  have HG := Hush.mk hg
  have hb : (k.fuse == 0) = false := by simpa using hf
  clear h hf hg hd
  go_enter Try.func54, Try.ntmps54
  go_wp2
  go_ret
  exact ⟨by simp [stepE, HF.out, HG.out], by rw [show stepK k 0 = { k with fault := -1 } from by unfold stepK; rw [if_neg (by decide), if_neg HF.out, if_pos HG.out]]; exact H.out.put 4 _ (by simp [rcells]) rfl, Touch.setCell _ _ _ rfl⟩
theorem rstep_go {w : World} {base q : Nat} {v : Value} {k : Dk} (h : IsRef w base q v k) (hd : k.down = false) (hf : fuseOk k.fuse) (hg : fuseOk k.fault) (hf0 : k.fuse ≠ 0) (hg0 : k.fault ≠ 0) : Calls Try.prog 54 #[dp q, .int .i64 0] w (RStepPost base q v k 0 w) := by
  have hK : stepK k 0 = { k with fuse := nearer k.fuse, fault := nearer k.fault, steps := wrap64 (k.steps + 1) } := by
    unfold stepK
    rw [if_neg (by decide), if_neg hf0, if_neg hg0]
  have hE : stepE k 0 = 0 := by unfold stepE; rw [if_neg (by decide), if_neg hf0, if_neg hg0]
  have c5 := h.c5
  rw [hd] at c5
  have c2 := h.c2
  have c3 := h.c3
  have c4 := h.c4
  have f2 := h.fr 2
  have f3 := h.fr 3
  have f4 := h.fr 4
  have H := Hush.mk h
  have HK := Hush.mk hK
  have HE := Hush.mk hE
  obtain ⟨a1, a2⟩ := hf
  obtain ⟨b1, b2⟩ := hg
  have hb : (k.fuse == 0) = false := by simpa using hf0
  have hb2 : (k.fault == 0) = false := by simpa using hg0
  by_cases h1 : 0 < k.fuse
  · by_cases h2 : 0 < k.fault
    · have HN : Hush (nearer k.fuse = k.fuse - 1 ∧ nearer k.fault = k.fault - 1) := ⟨by unfold nearer; rw [if_pos h1, if_pos h2]; exact ⟨rfl, rfl⟩⟩
      clear h hK hE hf0 hg0 hd
      go_enter Try.func54, Try.ntmps54
      go_wp2
      go_ret
      refine ⟨by rw [HE.out]; rfl, ?_, touch_three _ _ _ _ _ _ _ _⟩
      rw [HK.out, HN.out.1, HN.out.2]
      exact ((H.out.put (k' := { k with fuse := k.fuse - 1 }) 3 _ (by simp [rcells]) rfl).put (k' := { k with fuse := k.fuse - 1, fault := k.fault - 1 }) 4 _ (by simp [rcells]) rfl).put 2 _ (by simp [rcells]) rfl
    · have h2' : k.fault ≤ 0 := by omega
      have HN : Hush (nearer k.fuse = k.fuse - 1 ∧ nearer k.fault = k.fault) := ⟨by unfold nearer; rw [if_pos h1, if_neg h2]; exact ⟨rfl, rfl⟩⟩
      clear h hK hE hf0 hg0 hd
      go_enter Try.func54, Try.ntmps54
      go_wp2
      go_ret
      refine ⟨by rw [HE.out]; rfl, ?_, touch_two _ _ _ _ _ _⟩
      rw [HK.out, HN.out.1, HN.out.2]
      exact (H.out.put (k' := { k with fuse := k.fuse - 1 }) 3 _ (by simp [rcells]) rfl).put 2 _ (by simp [rcells]) rfl
  · have h1' : k.fuse ≤ 0 := by omega
    by_cases h2 : 0 < k.fault
    · have HN : Hush (nearer k.fuse = k.fuse ∧ nearer k.fault = k.fault - 1) := ⟨by unfold nearer; rw [if_neg h1, if_pos h2]; exact ⟨rfl, rfl⟩⟩
      clear h hK hE hf0 hg0 hd
      go_enter Try.func54, Try.ntmps54
      go_wp2
      go_ret
      refine ⟨by rw [HE.out]; rfl, ?_, touch_two _ _ _ _ _ _⟩
      rw [HK.out, HN.out.1, HN.out.2]
      exact (H.out.put (k' := { k with fault := k.fault - 1 }) 4 _ (by simp [rcells]) rfl).put 2 _ (by simp [rcells]) rfl
    · have h2' : k.fault ≤ 0 := by omega
      have HN : Hush (nearer k.fuse = k.fuse ∧ nearer k.fault = k.fault) := ⟨by unfold nearer; rw [if_neg h1, if_neg h2]; exact ⟨rfl, rfl⟩⟩
      clear h hK hE hf0 hg0 hd
      go_enter Try.func54, Try.ntmps54
      go_wp2
      go_ret
      refine ⟨by rw [HE.out]; rfl, ?_, Touch.setCell _ _ _ rfl⟩
      rw [HK.out, HN.out.1, HN.out.2]
      exact H.out.put 2 _ (by simp [rcells]) rfl
theorem rstep_any {w : World} {base q : Nat} {v : Value} {k : Dk} (h : IsRef w base q v k) (own : Int) (hd : k.down = false) (hf : fuseOk k.fuse) (hg : fuseOk k.fault) : Calls Try.prog 54 #[dp q, .int .i64 own] w (RStepPost base q v k own w) := by
  by_cases ho : own = 0
  · subst ho
    by_cases h0 : k.fuse = 0
    · exact rstep_fuse h hd h0
    · by_cases h1 : k.fault = 0
      · exact rstep_fault h hd h0 h1
      · exact rstep_go h hd hf hg h0 h1
  · exact rstep_own h own hd ho
end Go.Proofs.Yteilnbnnhocciaa.D

/-! D32 -/
set_option linter.unusedVariables false
set_option linter.unusedSimpArgs false
namespace Go.Proofs.Yteilnbnnhocciaa.D
open Go.RowKit Go.Maps Go.ChangeMaps Go.MapKept Go.WideMaps Go.Sort Go.Proofs.YteilnbnnhocciaaW.PrintWords Go.Proofs.YteilnbnnhocciaaW.PrintLast Go.Proofs.YteilnbnnhocciaaW.PrintMore
def idxOf (l : Files) (n : ByteArray) : Int := match l.findIdx? fun x => x.1 = n with | some i => (i : Int) | none => -1
theorem idx_none {l : Files} {n : ByteArray} (h : find l n = none) : idxOf l n = -1 := by
  unfold idxOf
  rw [List.findIdx?_eq_none_iff.2 fun x hx => ?_]
  have := find_none.1 h
  simp only [decide_eq_false_iff_not]
  intro e
  exact this (List.mem_map.2 ⟨x, hx, e⟩)
theorem idx_some {l : Files} {n : ByteArray} {f : FileV} (h : find l n = some f) : ∃ i : Nat, idxOf l n = i ∧ l[i]? = some (n, f) ∧ ∀ j x, j < i → l[j]? = some x → x.1 ≠ n := by
  induction l with
  | nil => simp [find] at h
  | cons y l ih =>
    rw [find_cons] at h
    by_cases hy : y.1 = n
    · rw [if_pos hy] at h
      cases h
      refine ⟨0, ?_, ?_, fun j x hj => absurd hj (Nat.not_lt_zero _)⟩
      · unfold idxOf; rw [List.findIdx?_cons]; simp [hy]
      · rw [List.getElem?_cons_zero, ← hy]
    · rw [if_neg hy] at h
      obtain ⟨i, h1, h2, h3⟩ := ih h
      refine ⟨i + 1, ?_, by rw [List.getElem?_cons_succ]; exact h2, fun j x hj hx => ?_⟩
      · unfold idxOf at h1 ⊢
        rw [List.findIdx?_cons]
        simp only [hy, decide_false, Bool.false_eq_true, if_false]
        cases hq : l.findIdx? (fun x => decide (x.1 = n)) with
        | none => rw [hq] at h1; simp at h1
        | some q => rw [hq] at h1; simp at h1; simp; omega
      · cases j with
        | zero => rw [List.getElem?_cons_zero] at hx; cases hx; exact hy
        | succ j => rw [List.getElem?_cons_succ] at hx; exact h3 j x (by omega) hx
theorem idx_none_ne {l : Files} {n : ByteArray} (h : find l n = none) : ∀ (j : Nat) x, l[j]? = some x → x.1 ≠ n := by
  intro j x hx e
  exact find_none.1 h (List.mem_map.2 ⟨x, List.mem_of_getElem? hx, e⟩)
theorem bytes_eq {a b : ByteArray} : a.toList = b.toList ↔ a = b := by
  constructor
  · intro h
    rw [ByteArray.toList_eq, ByteArray.toList_eq] at h
    exact bytes_inj h
  · rintro rfl; rfl
theorem list_at {l : Files} {i : Nat} (h : i < l.length) : ∃ x, l[i]? = some x := ⟨_, List.getElem?_eq_getElem h⟩
theorem idx_end {l : Files} {n : ByteArray} (h : ∀ (j : Nat) x, j < l.length → l[j]? = some x → x.1 ≠ n) : idxOf l n = -1 := by
  refine idx_none (find_none.2 fun hm => ?_)
  rw [List.mem_map] at hm
  obtain ⟨x, hx, e⟩ := hm
  obtain ⟨j, hj, hjx⟩ := List.mem_iff_getElem.1 hx
  exact h j x hj (by rw [List.getElem?_eq_getElem hj, hjx]) e
theorem idx_here {l : Files} {n : ByteArray} {i : Nat} {x : ByteArray × FileV} (hx : l[i]? = some x) (he : x.1 = n) (h : ∀ (j : Nat) y, j < i → l[j]? = some y → y.1 ≠ n) : idxOf l n = i := by
  cases hf : find l n with
  | none => exact absurd he (idx_none_ne hf i x hx)
  | some f =>
    obtain ⟨q, h1, h2, h3⟩ := idx_some hf
    rw [h1]
    rcases Nat.lt_trichotomy q i with hlt | rfl | hgt
    · exact absurd rfl (h q _ hlt h2)
    · rfl
    · exact absurd he (h3 i x hgt hx)
set_option maxRecDepth 100000 in
theorem find_on {w : World} {base q : Nat} {v : Value} {k : Dk} (h : IsRef w base q v k) (hl : k.files.length ≤ 1000) (n : ByteArray) : Calls Try.prog 52 #[dp q, .string n] w fun e w' => e = .returned (.int .i64 (idxOf k.files n)) ∧ Below w.heap.size w w' := by
  have c0 := h.c0
  have H := Hush.mk h
  obtain ⟨A, cap, rfl⟩ := own_slice h.own
  clear h
  go_enter Try.func52, Try.ntmps52
  go_wp2
  go_loopw [12] (fun iv wr => ∃ i : Nat, i ≤ k.files.length ∧ iv = .int .i64 (i : Nat) ∧ Hush (Below w.heap.size w wr ∧ ∀ (j : Nat) x, j < i → k.files[j]? = some x → x.1 ≠ n)) (fun iv _ => k.files.length - (intOf iv).toNat)
  case atStart => exact ⟨0, Nat.zero_le _, rfl, ⟨Below.refl _ _, fun j x hj => absurd hj (Nat.not_lt_zero _)⟩⟩
  case round =>
    obtain ⟨i, hi, rfl, HR⟩ := hrel
    by_cases hlt : i < k.files.length
    · obtain ⟨g, cap', hv, hgq, _, hglt, _, hat⟩ := (H.out.below HR.out.1).at_ (by omega)
      obtain ⟨x, hx⟩ := list_at hlt
      obtain ⟨a1, a2, a3, _, _⟩ := hat i x hx
      cases hv
      have HX := Hush.mk hx
      have hlt2 : (i : Int) < (k.files.length : Int) := by omega
      obtain ⟨nm, f⟩ := x
      obtain ⟨s, su⟩ := f
      simp only at a1 a2 a3
      clear hx hat hgq hglt
      by_cases he : nm = n
      · have hb : (nm.toList == n.toList) = true := by rw [he]; simp
        have HI : Hush (idxOf k.files n = (i : Int)) := ⟨idx_here HX.out he HR.out.2⟩
        clear he
        go_wp2
        go_ret
        exact ⟨by rw [HI.out]; rfl, HR.out.1.alloc HR.out.1.size _⟩
      · have hb : (nm.toList == n.toList) = false := by
          rw [beq_eq_false_iff_ne]
          exact fun e => he (bytes_eq.1 e)
        have HN : Hush (∀ (j : Nat) x, j < i + 1 → k.files[j]? = some x → x.1 ≠ n) := ⟨fun j x hj hx => by
          by_cases hji : j = i
          · subst hji
            rw [HX.out] at hx
            cases hx
            exact he
          · exact HR.out.2 j x (by omega) hx⟩
        clear he
        go_wp2
        go_roundw
        case rel => exact ⟨i + 1, by omega, by go_num, ⟨HR.out.1.alloc HR.out.1.size _, HN.out⟩⟩
        case measure => simp [intOf]; omega
    · have HI : Hush (idxOf k.files n = -1) := ⟨idx_end fun j x hj hx => HR.out.2 j x (by omega) hx⟩
      go_wp2
      go_ret
      exact ⟨by rw [HI.out]; rfl, HR.out.1⟩
theorem usedN_take {l : Files} (i : Nat) : usedN (l.take i) ≤ usedN l := by
  have h : usedN l = usedN (l.take i) + usedN (l.drop i) := by rw [← usedN_app, List.take_append_drop]
  omega
theorem usedN_snoc {l : Files} {i : Nat} {x : ByteArray × FileV} (h : l[i]? = some x) : usedN (l.take (i + 1)) = usedN (l.take i) + x.2.s.size := by
  obtain ⟨hi, he⟩ := List.getElem?_eq_some_iff.1 h
  rw [List.take_succ_eq_append_getElem hi, usedN_app, he]
  simp [usedN]
set_option maxRecDepth 100000 in
theorem rused_on {w : World} {base q : Nat} {v : Value} {k : Dk} (h : IsRef w base q v k) (g : Good k) : Calls Try.prog 45 #[dp q] w fun e w' => e = .returned (.int .i64 (usedN k.files : Nat)) ∧ Below w.heap.size w w' := by
  have c0 := h.c0
  have H := Hush.mk h
  have hl : k.files.length ≤ 200 := g.few
  have hu : (usedN k.files : Int) ≤ 16777216 := by have := g.used; omega
  obtain ⟨A, cap, rfl⟩ := own_slice h.own
  clear h g
  go_enter Try.func45, Try.ntmps45
  go_wp2
  go_loopw [3, 11] (fun tv iv wr => ∃ i : Nat, i ≤ k.files.length ∧ iv = .int .i64 (i : Nat) ∧ tv = .int .i64 (usedN (k.files.take i) : Nat) ∧ Hush (Below w.heap.size w wr)) (fun _ iv _ => k.files.length - (intOf iv).toNat)
  case atStart => exact ⟨0, Nat.zero_le _, rfl, rfl, ⟨Below.refl _ _⟩⟩
  case round =>
    obtain ⟨i, hi, rfl, rfl, HR⟩ := hrel
    by_cases hlt : i < k.files.length
    · obtain ⟨g, cap', hv, hgq, _, hglt, _, hat⟩ := (H.out.below HR.out).at_ (by omega)
      obtain ⟨x, hx⟩ := list_at hlt
      obtain ⟨a1, a2, a3, _, _⟩ := hat i x hx
      cases hv
      have hlt2 : (i : Int) < (k.files.length : Int) := by omega
      have hs := usedN_snoc hx
      have ht := usedN_take (l := k.files) (i + 1)
      obtain ⟨nm, f⟩ := x
      obtain ⟨s, su⟩ := f
      simp only at a1 a2 a3 hs
      have hb1 : (usedN (k.files.take i) : Int) + (s.size : Int) ≤ 16777216 := by omega
      have HS : Hush ((usedN (k.files.take (i + 1)) : Int) = (usedN (k.files.take i) : Int) + (s.size : Int)) := ⟨by omega⟩
      clear hx hat hgq hglt hs ht
      generalize usedN (k.files.take i) = u at hb1 HS ⊢
      go_wp2
      go_roundw
      case rel => exact ⟨i + 1, by omega, by go_num, by rw [HS.out], ⟨HR.out.alloc HR.out.size _⟩⟩
      case measure => simp [intOf]; omega
    · have HE : Hush (usedN (k.files.take i) = usedN k.files) := ⟨by rw [List.take_of_length_le (by omega)]⟩
      rw [HE.out]
      go_wp2
      go_ret
      exact ⟨rfl, HR.out⟩
end Go.Proofs.Yteilnbnnhocciaa.D

/-! D33 -/
set_option linter.unusedVariables false
set_option linter.unusedSimpArgs false
namespace Go.Proofs.Yteilnbnnhocciaa.D
open Go.RowKit Go.Maps Go.ChangeMaps Go.MapKept Go.WideMaps Go.Sort Go.Proofs.YteilnbnnhocciaaW.PrintWords Go.Proofs.YteilnbnnhocciaaW.PrintLast Go.Proofs.YteilnbnnhocciaaW.PrintMore
theorem loose_none {k : Dk} {n : ByteArray} (h : find k.files n = none) : looseN k n = 0 := by
  unfold looseN looseF
  rw [h]
  show wrap64 (0 - 0) = 0
  exact IntWalk.wrap64_in _ ⟨by decide, by decide⟩
set_option maxRecDepth 100000 in
theorem rloose_on {w : World} {base q : Nat} {v : Value} {k : Dk} (h : IsRef w base q v k) (hl : k.files.length ≤ 1000) (n : ByteArray) : Calls Try.prog 46 #[dp q, .string n] w fun e w' => e = .returned (.int .i64 (looseN k n)) ∧ Below w.heap.size w w' := by
  have H := Hush.mk h
  clear h
  go_enter Try.func46, Try.ntmps46
  go_wp2_with fail
  refine (find_on H.out hl n).mono ?_
  rintro e w1 ⟨rfl, hb1⟩
  have H1 := Hush.mk (H.out.below hb1)
  have HB := Hush.mk hb1
  clear hb1
  cases hf : find k.files n with
  | none =>
    have HL : Hush (looseN k n = 0) := ⟨loose_none hf⟩
    rw [idx_none hf]
    clear hf
    go_wp2
    go_ret
    exact ⟨by rw [HL.out]; rfl, HB.out⟩
  | some f =>
    obtain ⟨i, h1, h2, h3⟩ := idx_some hf
    have HL : Hush (looseN k n = looseF f) := ⟨by unfold looseN; rw [hf]; rfl⟩
    have hi : i < k.files.length := (List.getElem?_eq_some_iff.1 h2).1
    obtain ⟨g, cap, rfl, hgq, _, hglt, _, hat⟩ := H1.out.at_ (by omega)
    obtain ⟨a1, a2, a3, _, _⟩ := hat i _ h2
    have c0 := H1.out.c0
    have hi2 : (i : Int) < (k.files.length : Int) := by omega
    have hi3 : (0 : Int) ≤ (i : Int) := by omega
    rw [h1]
    obtain ⟨s, su⟩ := f
    simp only at a1 a2 a3
    clear hf h1 h2 h3 hat hgq hglt
    go_wp2
    go_quiet (fail)
    go_wp2
    go_ret
    exact ⟨by rw [HL.out]; rfl, pw_below_drewN HB.out _⟩
theorem rread_off {w : World} {base q : Nat} {v : Value} {k : Dk} (h : IsRef w base q v k) (n : ByteArray) (hd : k.down = true) : Calls Try.prog 40 #[dp q, .string n] w fun e w' => e = .returned (.tuple #[.string ⟨#[]⟩, .int .i64 13]) ∧ w' = w := by
  have c5 := h.c5
  rw [hd] at c5
  have H := Hush.mk h
  clear h hd
  go_enter Try.func40, Try.ntmps40
  go_wp2
  go_ret2
  exact ⟨rfl, rfl⟩
set_option maxRecDepth 100000 in
theorem rread_on {w : World} {base q : Nat} {v : Value} {k : Dk} (h : IsRef w base q v k) (hl : k.files.length ≤ 1000) (n : ByteArray) (hd : k.down = false) : Calls Try.prog 40 #[dp q, .string n] w fun e w' => e = .returned (.tuple #[.string (readS k n), .int .i64 (thereE k n)]) ∧ Below w.heap.size w w' := by
  have c5 := h.c5
  rw [hd] at c5
  have H := Hush.mk h
  clear h hd
  go_enter Try.func40, Try.ntmps40
  go_wp2_with fail
  refine (find_on H.out hl n).mono ?_
  rintro e w1 ⟨rfl, hb1⟩
  have H1 := Hush.mk (H.out.below hb1)
  have HB := Hush.mk hb1
  clear hb1 c5
  cases hf : find k.files n with
  | none =>
    have HL : Hush (readS k n = ⟨#[]⟩ ∧ thereE k n = 16) := ⟨by unfold readS thereE; rw [hf]; exact ⟨rfl, rfl⟩⟩
    rw [idx_none hf]
    clear hf
    go_wp2
    go_ret2
    exact ⟨by rw [HL.out.1, HL.out.2]; rfl, HB.out⟩
  | some f =>
    obtain ⟨i, h1, h2, h3⟩ := idx_some hf
    have HL : Hush (readS k n = f.s ∧ thereE k n = 0) := ⟨by unfold readS thereE; rw [hf]; exact ⟨rfl, rfl⟩⟩
    have hi : i < k.files.length := (List.getElem?_eq_some_iff.1 h2).1
    obtain ⟨g, cap, rfl, hgq, _, hglt, _, hat⟩ := H1.out.at_ (by omega)
    obtain ⟨a1, a2, a3, _, _⟩ := hat i _ h2
    have c0 := H1.out.c0
    have hi2 : (i : Int) < (k.files.length : Int) := by omega
    have hi3 : (0 : Int) ≤ (i : Int) := by omega
    rw [h1]
    obtain ⟨s, su⟩ := f
    simp only at a1 a2 a3
    clear hf h1 h2 h3 hat hgq hglt
    go_wp2
    go_ret2
    exact ⟨by rw [HL.out.1, HL.out.2]; rfl, HB.out⟩
end Go.Proofs.Yteilnbnnhocciaa.D

/-! D34 -/
set_option linter.unusedVariables false
set_option linter.unusedSimpArgs false
namespace Go.Proofs.Yteilnbnnhocciaa.D
open Go.RowKit Go.Maps Go.ChangeMaps Go.MapKept Go.WideMaps Go.Sort Go.Proofs.YteilnbnnhocciaaW.PrintWords Go.Proofs.YteilnbnnhocciaaW.PrintLast Go.Proofs.YteilnbnnhocciaaW.PrintMore
theorem info79 : (Try.prog.info? 79).map (fun i => (i.zero, i.size, i.bytes)) = some (some (.agg #[.string ⟨#[]⟩, .string ⟨#[]⟩, .int .i64 0]), 3, 40) := by kernel_rfl
theorem row_base {w : World} {b b' : Nat} {e : TypeId} {z n : Nat} {v : Value} {xs : List Value} (h : w.ownsRow b e z v n xs) (hb : b' ≤ b) : w.ownsRow b' e z v n xs :=
  ⟨h.1, h.2.imp id fun ⟨g, cap, cur, h1, h2, h3⟩ => ⟨g, cap, cur, h1, Nat.le_trans hb h2, h3⟩⟩
theorem row_ne {w : World} {b q : Nat} {e : TypeId} {z n : Nat} {v : Value} {xs : List Value} (h : w.ownsRow b e z v n xs) (hb : q < b) : v.ownBlock ≠ some q := fun e => by have := (h.lt q e).1; omega
theorem news3 {w : World} {g t : Nat} {a b c : Value} (h : w.heap[g]? = some (.cells #[a, b, c] t (0, 0))) : ∀ j u, ([a, b, c] : List Value)[j]? = some u → w.cell? ((⟨g, 0, none⟩ : Addr).add j) = some u := by
  intro j u hj
  rw [add_plain]
  obtain ⟨h1, h2, h3⟩ := (show w.cell? ⟨g, 0, none⟩ = some a ∧ w.cell? ⟨g, 1, none⟩ = some b ∧ w.cell? ⟨g, 2, none⟩ = some c by simp [World.cell?, h])
  match j, hj with
  | 0, hj => cases hj; exact h1
  | 1, hj => cases hj; exact h2
  | 2, hj => cases hj; exact h3
  | j + 3, hj => simp at hj
theorem gone_snoc_ne {l : Files} {n : ByteArray} {i : Nat} {x : ByteArray × FileV} (h : l[i]? = some x) (hne : x.1 ≠ n) : gone (l.take (i + 1)) n = gone (l.take i) n ++ [x] := by
  obtain ⟨hi, he⟩ := List.getElem?_eq_some_iff.1 h
  rw [List.take_succ_eq_append_getElem hi, he]
  unfold gone
  rw [List.filter_append]
  simp [hne]
theorem gone_snoc_eq {l : Files} {n : ByteArray} {i : Nat} {x : ByteArray × FileV} (h : l[i]? = some x) (hne : x.1 = n) : gone (l.take (i + 1)) n = gone (l.take i) n := by
  obtain ⟨hi, he⟩ := List.getElem?_eq_some_iff.1 h
  rw [List.take_succ_eq_append_getElem hi, he]
  unfold gone
  rw [List.filter_append]
  simp [hne]
theorem gone_take_le (l : Files) (n : ByteArray) (i : Nat) : (gone (l.take i) n).length ≤ i := Nat.le_trans (List.length_filter_le _ _) (by simp; omega)
def RefPost (base q : Nat) (k : Dk) (r : Value) (w : World) (e : Ending) (w' : World) : Prop := e = .returned r ∧ (∃ v, IsRef w' base q v k) ∧ Below base w w'
def GonePost (base q : Nat) (k : Dk) (w : World) (e : Ending) (w' : World) : Prop := e = .returned (.tuple #[]) ∧ (∃ v, IsRef w' base q v k ∧ ∀ g, v.ownBlock = some g → w.heap.size ≤ g) ∧ Touch (· = q) w w'
set_option maxRecDepth 100000 in
theorem rgone_t {w : World} {base q : Nat} {v : Value} {k : Dk} (h : IsRef w base q v k) (hl : k.files.length ≤ 1000) (n : ByteArray) : Calls Try.prog 55 #[dp q, .string n] w (GonePost base q { k with files := gone k.files n } w) := by
  have c0 := h.c0
  have H := Hush.mk h
  obtain ⟨A, cap, rfl⟩ := own_slice h.own
  obtain ⟨i0, hi0, hz0, hz1, hz2⟩ := info_parts info79
  have HI := Hush.mk (And.intro hi0 (And.intro hz0 (And.intro hz1 hz2)))
  clear h hi0 hz0 hz1 hz2
  go_enter Try.func55, Try.ntmps55
  go_wp2
  go_loopw [4, 12] (fun lv iv wr => ∃ i : Nat, i ≤ k.files.length ∧ iv = .int .i64 (i : Nat) ∧ Hush (wr.ownsRow w.heap.size 79 3 lv (gone (k.files.take i) n).length (rowOf (gone (k.files.take i) n)) ∧ Below w.heap.size w wr)) (fun _ iv _ => k.files.length - (intOf iv).toNat)
  case atStart => exact ⟨0, Nat.zero_le _, rfl, ⟨World.ownsRow_nil _ _ _ _, Below.refl _ _⟩⟩
  case round =>
    obtain ⟨i, hi, rfl, HR⟩ := hrel
    by_cases hlt : i < k.files.length
    · obtain ⟨g, cap', hv, hgq, _, hglt, _, hat⟩ := (H.out.below HR.out.2).at_ (by omega)
      obtain ⟨x, hx⟩ := list_at hlt
      obtain ⟨a1, a2, a3, _, _⟩ := hat i x hx
      cases hv
      have HX := Hush.mk hx
      have hlt2 : (i : Int) < (k.files.length : Int) := by omega
      obtain ⟨nm, f⟩ := x
      obtain ⟨s, su⟩ := f
      simp only at a1 a2 a3
      clear hx hat hgq hglt
      by_cases he : nm = n
      · have hb : (nm.toList != n.toList) = false := by rw [he]; simp
        have hb2 : (nm.toList == n.toList) = true := by rw [he]; simp
        have HN : Hush (gone (k.files.take (i + 1)) n = gone (k.files.take i) n) := ⟨gone_snoc_eq HX.out he⟩
        clear he
        go_wp2
        go_roundw
        case rel => exact ⟨i + 1, by omega, by go_num, ⟨by rw [HN.out]; exact HR.out.1.alloc _, HR.out.2.alloc HR.out.2.size _⟩⟩
        case measure => simp [intOf]; omega
      · have hb : (nm.toList != n.toList) = true := by
          rw [bne_iff_ne]
          exact fun e => he (bytes_eq.1 e)
        have hb2 : (nm.toList == n.toList) = false := by
          rw [beq_eq_false_iff_ne]
          exact fun e => he (bytes_eq.1 e)
        have HN : Hush (gone (k.files.take (i + 1)) n = gone (k.files.take i) n ++ [(nm, ⟨s, su⟩)]) := ⟨gone_snoc_ne HX.out he⟩
        have HG : Hush ((gone (k.files.take i) n).length ≤ i) := ⟨gone_take_le _ _ _⟩
        clear he
        have hA := World.alloc_heap_new (wr.alloc (.cells #[.string nm, .string s, .int .i64 su] 79)) (.cells #[.string nm, .string s, .int .i64 su] 79)
        rw [World.size_alloc] at hA
        have HA := Hush.mk hA
        have HBW : Hush (Below w.heap.size w ((wr.alloc (.cells #[.string nm, .string s, .int .i64 su] 79)).alloc (.cells #[.string nm, .string s, .int .i64 su] 79))) := ⟨(HR.out.2.alloc HR.out.2.size _).alloc (by have := HR.out.2.size; simp; omega) _⟩
        clear hA
        go_wp2_with ((at_builtin; refine wpList_append_lies _ rfl _ _ 66 rfl w.heap.size 79 i0 _ 3 40 Try.underlying66 HI.out.1 HI.out.2.1 HI.out.2.2.1 HI.out.2.2.2 rfl (by decide) u4 (gone (k.files.take i) n).length (rowOf (gone (k.files.take i) n)) rfl ((HR.out.1.alloc _).alloc _) ⟨wr.heap.size + 1, 0, none⟩ 1 1 [.string nm, .string s, .int .i64 su] rfl rfl (news3 HA.out) (by simp [Value.oneCell']) (by decide) (by have := HG.out; unfold maxLen; omega) (by have := HG.out; omega) (by have := HR.out.2.size; simp; omega) (wr.heap.size + 2) (by simp) ?_; intro gg cc w1 hown1 hgrow hor hgl))
        have HO2 : Hush (w1.ownsRow w.heap.size 79 3 (.slice (some ⟨gg, 0, none⟩) ((gone (k.files.take i) n).length + 1) cc) (gone (k.files.take (i + 1)) n).length (rowOf (gone (k.files.take (i + 1)) n)) ∧ Below w.heap.size w w1) := ⟨by
          rw [HN.out, rowOf_app, List.length_append]
          exact hown1, HBW.out.grown hgrow (by have := HBW.out.size; exact this) (fun r hr => (HR.out.1.lt r hr).1)⟩
        clear hown1 hgrow hor hgl
        exact ⟨⟨i + 1, by omega, by go_num, HO2⟩, by simp [intOf]; omega⟩
    · have h0 := HR.out.1
      rw [List.take_of_length_le (by omega)] at h0
      obtain ⟨A2, c2, rfl⟩ := own_slice h0
      have HE : Hush (wr.ownsRow base 79 3 (.slice A2 (gone k.files n).length c2) (gone k.files n).length (rowOf (gone k.files n)) ∧ (Value.slice A2 (gone k.files n).length c2).ownBlock ≠ some q ∧ Below w.heap.size w wr ∧ q < w.heap.size) := ⟨by
        exact ⟨row_base h0 (by have := H.out.ge; have := H.out.lt; omega), row_ne h0 H.out.lt, HR.out.2, H.out.lt⟩⟩
      have HLB : Hush (∀ g, (Value.slice A2 (gone k.files n).length c2).ownBlock = some g → w.heap.size ≤ g) := ⟨fun g hg => (h0.lt g hg).1⟩
      clear h0
      have hH := H.out.below HE.out.2.2.1
      have cq := hH.c0
      have fq := hH.fr 0
      have HROW := Hush.mk hH.row
      have HGE := Hush.mk H.out.ge
      clear hH
      go_wp2
      refine bodyPost_end (v := .tuple #[]) (by simp [results, Try.results55, go_sem]) rfl ⟨rfl, ⟨_, IsRef.swap HROW.out HGE.out HE.out.1 HE.out.2.1 rfl, HLB.out⟩, ?_⟩
      exact (Touch.of_below HE.out.2.2.1).trans (Touch.setCell _ _ _ rfl)
theorem rgone_on {w : World} {base q : Nat} {v : Value} {k : Dk} (h : IsRef w base q v k) (hl : k.files.length ≤ 1000) (n : ByteArray) : Calls Try.prog 55 #[dp q, .string n] w (RefPost base q { k with files := gone k.files n } (.tuple #[]) w) :=
  (rgone_t h hl n).mono fun e w' ⟨h1, h2, h3⟩ => ⟨h1, h2.imp fun v hv => hv.1, h3.below (fun k e => by have := h.ge; omega) (by have := h.ge; have := h.lt; omega)⟩
end Go.Proofs.Yteilnbnnhocciaa.D

/-! D35 -/
set_option linter.unusedVariables false
set_option linter.unusedSimpArgs false
namespace Go.Proofs.Yteilnbnnhocciaa.D
open Go.RowKit Go.Maps Go.ChangeMaps Go.MapKept Go.WideMaps Go.Sort Go.Proofs.YteilnbnnhocciaaW.PrintWords Go.Proofs.YteilnbnnhocciaaW.PrintLast Go.Proofs.YteilnbnnhocciaaW.PrintMore
theorem name_bad {n : ByteArray} {i : Nat} {b : UInt8} (hb : n.data.toList[i]? = some b) (h : badRune b.toNat = true) : isName n = false := by
  rw [isName_bytes]
  have : (n.data.toList.any fun b => badRune b.toNat) = true := List.any_eq_true.2 ⟨b, List.mem_of_getElem? hb, h⟩
  rw [this]
  simp
theorem name_good {n : ByteArray} (h1 : 1 ≤ n.size) (h2 : n.size ≤ 32) (h : ∀ (i : Nat) b, i < n.size → n.data.toList[i]? = some b → badRune b.toNat = false) : isName n = true := by
  rw [isName_bytes, decide_eq_true h1, decide_eq_true h2]
  have : (n.data.toList.any fun b => badRune b.toNat) = false := by
    rw [List.any_eq_false]
    intro b hb
    obtain ⟨i, hi, e⟩ := List.mem_iff_getElem.1 hb
    have := h i b (by simpa using hi) (by rw [List.getElem?_eq_getElem hi, e])
    simp [this]
  rw [this]
  rfl
theorem index_run (n : ByteArray) (i : Nat) (b : UInt8) (hb : n.data.toList[i]? = some b) (W : World) : (Instr.index 9 (.string n) (.int .i64 (i : Int))).run Try.prog W = .ok (.int .u8 (b.toNat : Nat)) W := by
  obtain ⟨hx, he⟩ := List.getElem?_eq_some_iff.1 hb
  have hx2 : i < n.size := by simpa using hx
  rw [run_index_string W 9 n .i64 _ Try.underlying9, dif_pos (by omega)]
  have e : (n[((i : Int)).toNat]'(by omega)) = b := he
  rw [e]
set_option maxRecDepth 100000 in
set_option maxHeartbeats 2000000 in
theorem rnamed_on (n : ByteArray) (hn : n.size ≤ 1000000) (w : World) : Calls Try.prog 53 #[.string n] w fun e w' => e = .returned (.bool (isName n)) ∧ w' = w := by
  by_cases h1 : n.size < 1
  · have HI : Hush (isName n = false) := ⟨by rw [isName_bytes, decide_eq_false (by omega)]; rfl⟩
    have h1' : (n.size : Int) < 1 := by omega
    rw [HI.out]
    clear h1
    go_enter Try.func53, Try.ntmps53
    go_wp2
    go_ret
    exact ⟨rfl, rfl⟩
  · by_cases h2 : 32 < n.size
    · have HI : Hush (isName n = false) := ⟨by rw [isName_bytes, decide_eq_false (show ¬ n.size ≤ 32 by omega)]; simp⟩
      have h1' : (1 : Int) ≤ (n.size : Int) := by omega
      have h2' : (32 : Int) < (n.size : Int) := by omega
      rw [HI.out]
      clear h1 h2
      go_enter Try.func53, Try.ntmps53
      go_wp2
      go_ret
      exact ⟨rfl, rfl⟩
    · have h1' : (1 : Int) ≤ (n.size : Int) := by omega
      have h2' : (n.size : Int) ≤ 32 := by omega
      have H12 := Hush.mk (And.intro h1 h2)
      clear h1 h2
      obtain ⟨r, hr⟩ : ∃ r, r = isName n := ⟨_, rfl⟩
      have HR := Hush.mk hr
      rw [← hr]
      clear hr
      go_enter Try.func53, Try.ntmps53
      go_wp2
      go_loop [3] (fun iv => ∃ i : Nat, i ≤ n.size ∧ iv = .int .i64 (i : Nat) ∧ Hush (∀ (j : Nat) b, j < i → n.data.toList[j]? = some b → badRune b.toNat = false)) (fun iv => n.size - (intOf iv).toNat)
      case atStart => exact ⟨0, Nat.zero_le _, rfl, ⟨fun j b hj => absurd hj (Nat.not_lt_zero _)⟩⟩
      case round =>
        obtain ⟨i, hi, rfl, HN⟩ := hrel
        by_cases hlt : i < n.size
        · obtain ⟨b, hb⟩ : ∃ b : UInt8, n.data.toList[i]? = some b := ⟨_, List.getElem?_eq_getElem (by simpa using hlt)⟩
          have hix := index_run n i b hb
          have HBB := Hush.mk hb
          have hlt2 : (i : Int) < (n.size : Int) := by omega
          have hb256 : b.toNat < 256 := b.toNat_lt
          obtain ⟨c, hc⟩ : ∃ c, c = b.toNat := ⟨_, rfl⟩
          rw [← hc] at hix hb256
          have HC := Hush.mk hc
          clear hb hc
          have hcase : (c < 45 ∧ badRune c = true) ∨ (c = 45 ∧ badRune c = false) ∨ (c = 46 ∧ badRune c = false) ∨ (c = 47 ∧ badRune c = true) ∨ (48 ≤ c ∧ c ≤ 57 ∧ badRune c = false) ∨ (58 ≤ c ∧ c ≤ 96 ∧ badRune c = true) ∨ (97 ≤ c ∧ c ≤ 122 ∧ badRune c = false) ∨ (123 ≤ c ∧ badRune c = true) := by
            unfold badRune
            simp only [Bool.not_eq_true', Bool.not_eq_false', Bool.or_eq_false_iff, Bool.and_eq_false_iff, Bool.or_eq_true, Bool.and_eq_true, decide_eq_true_eq, decide_eq_false_iff_not]
            omega
          rcases hcase with ⟨k1, kb⟩ | ⟨rfl, kb⟩ | ⟨rfl, kb⟩ | ⟨rfl, kb⟩ | ⟨k1, k2, kb⟩ | ⟨k1, k2, kb⟩ | ⟨k1, k2, kb⟩ | ⟨k1, kb⟩
          · have m1 : ((c : Int) != 45) = true := by simp; omega
            have m2 : ((c : Int) != 46) = true := by simp; omega
            have m3 : (c : Int) < 45 := by omega
            have HF : Hush (r = false) := ⟨by rw [HR.out]; exact name_bad HBB.out (by rw [← HC.out]; exact kb)⟩
            clear kb k1
            go_wp2
            go_ret
            exact ⟨by rw [HF.out]; rfl, rfl⟩
          · have m0 : True := trivial
            have HN2 : Hush (∀ (j : Nat) b, j < i + 1 → n.data.toList[j]? = some b → badRune b.toNat = false) := ⟨fun j b' hj hjb => by
              by_cases hji : j = i
              · subst hji
                rw [HBB.out] at hjb
                cases hjb
                rw [← HC.out]
                exact kb
              · exact HN.out j b' (by omega) hjb⟩
            clear kb
            go_wp2
            all_goals exact ⟨⟨i + 1, by omega, by go_num, HN2⟩, by simp [intOf]; omega⟩
          · have m0 : True := trivial
            have HN2 : Hush (∀ (j : Nat) b, j < i + 1 → n.data.toList[j]? = some b → badRune b.toNat = false) := ⟨fun j b' hj hjb => by
              by_cases hji : j = i
              · subst hji
                rw [HBB.out] at hjb
                cases hjb
                rw [← HC.out]
                exact kb
              · exact HN.out j b' (by omega) hjb⟩
            clear kb
            go_wp2
            all_goals exact ⟨⟨i + 1, by omega, by go_num, HN2⟩, by simp [intOf]; omega⟩
          · have m0 : True := trivial
            have HF : Hush (r = false) := ⟨by rw [HR.out]; exact name_bad HBB.out (by rw [← HC.out]; exact kb)⟩
            clear kb
            go_wp2
            go_ret
            exact ⟨by rw [HF.out]; rfl, rfl⟩
          · have m1 : ((c : Int) != 45) = true := by simp; omega
            have m2 : ((c : Int) != 46) = true := by simp; omega
            have m3 : (48 : Int) ≤ (c : Int) := by omega
            have m4 : (c : Int) ≤ 57 := by omega
            have HN2 : Hush (∀ (j : Nat) b, j < i + 1 → n.data.toList[j]? = some b → badRune b.toNat = false) := ⟨fun j b' hj hjb => by
              by_cases hji : j = i
              · subst hji
                rw [HBB.out] at hjb
                cases hjb
                rw [← HC.out]
                exact kb
              · exact HN.out j b' (by omega) hjb⟩
            clear kb k1 k2
            go_wp2
            all_goals exact ⟨⟨i + 1, by omega, by go_num, HN2⟩, by simp [intOf]; omega⟩
          · have m1 : ((c : Int) != 45) = true := by simp; omega
            have m2 : ((c : Int) != 46) = true := by simp; omega
            have m3 : (58 : Int) ≤ (c : Int) := by omega
            have m4 : (c : Int) ≤ 96 := by omega
            have d4 : decide ((c : Int) ≤ 57) = false := by simp; omega
            have HF : Hush (r = false) := ⟨by rw [HR.out]; exact name_bad HBB.out (by rw [← HC.out]; exact kb)⟩
            clear kb k1 k2
            go_wp2
            go_ret
            exact ⟨by rw [HF.out]; rfl, rfl⟩
          · have m1 : ((c : Int) != 45) = true := by simp; omega
            have m2 : ((c : Int) != 46) = true := by simp; omega
            have m3 : (97 : Int) ≤ (c : Int) := by omega
            have m4 : (c : Int) ≤ 122 := by omega
            have HN2 : Hush (∀ (j : Nat) b, j < i + 1 → n.data.toList[j]? = some b → badRune b.toNat = false) := ⟨fun j b' hj hjb => by
              by_cases hji : j = i
              · subst hji
                rw [HBB.out] at hjb
                cases hjb
                rw [← HC.out]
                exact kb
              · exact HN.out j b' (by omega) hjb⟩
            clear kb k1 k2
            go_wp2
            all_goals exact ⟨⟨i + 1, by omega, by go_num, HN2⟩, by simp [intOf]; omega⟩
          · have m1 : ((c : Int) != 45) = true := by simp; omega
            have m2 : ((c : Int) != 46) = true := by simp; omega
            have m3 : (123 : Int) ≤ (c : Int) := by omega
            have d4 : decide ((c : Int) ≤ 57) = false := by simp; omega
            have d5 : decide ((c : Int) ≤ 122) = false := by simp; omega
            have HF : Hush (r = false) := ⟨by rw [HR.out]; exact name_bad HBB.out (by rw [← HC.out]; exact kb)⟩
            clear kb k1
            go_wp2
            go_ret
            exact ⟨by rw [HF.out]; rfl, rfl⟩
        · have HF : Hush (r = true) := ⟨by rw [HR.out]; exact name_good (by have := H12.out.1; omega) (by have := H12.out.2; omega) fun j b hj hjb => HN.out j b (by omega) hjb⟩
          go_wp2
          go_ret
          exact ⟨by rw [HF.out]; rfl, rfl⟩
end Go.Proofs.Yteilnbnnhocciaa.D

/-! D36 -/
set_option linter.unusedVariables false
set_option linter.unusedSimpArgs false
namespace Go.Proofs.Yteilnbnnhocciaa.D
open Go.RowKit Go.Maps Go.ChangeMaps Go.MapKept Go.WideMaps Go.Sort Go.Proofs.YteilnbnnhocciaaW.PrintWords Go.Proofs.YteilnbnnhocciaaW.PrintLast Go.Proofs.YteilnbnnhocciaaW.PrintMore
def stepE' (k : Dk) (own : Int) : Int := if k.down then 13 else stepE k own
def stepK' (k : Dk) (own : Int) : Dk := if k.down then k else stepK k own
theorem rstep_all {w : World} {base q : Nat} {v : Value} {k : Dk} (h : IsRef w base q v k) (own : Int) (hf : fuseOk k.fuse) (hg : fuseOk k.fault) : Calls Try.prog 54 #[dp q, .int .i64 own] w fun e w' => e = .returned (.int .i64 (stepE' k own)) ∧ IsRef w' base q v (stepK' k own) ∧ Touch (· = q) w w' := by
  unfold stepE' stepK'
  cases hd : k.down with
  | true => exact (rstep_off h own hd).mono fun e w' ⟨h1, h2⟩ => by subst h2; exact ⟨h1, h, Touch.refl _ _⟩
  | false => exact (rstep_any h own hd hf hg).mono fun e w' h1 => h1
def actK (k : Dk) (own : Int) (F : Files) : Dk := if stepE' k own = 0 then { stepK' k own with files := F } else stepK' k own
theorem touch_base {base q : Nat} {w w' : World} (h : Touch (· = q) w w') (hq : base ≤ q) (hb : base ≤ w.heap.size) : Below base w w' := h.below (fun k e => by omega) hb
theorem step0 {k : Dk} {own : Int} (h : stepE' k own = 0) : own = 0 ∧ k.down = false := by
  unfold stepE' at h
  cases hd : k.down with
  | true => rw [hd] at h; simp at h
  | false =>
    rw [hd] at h
    refine ⟨Classical.byContradiction fun hne => ?_, rfl⟩
    unfold stepE at h
    simp [hne] at h
theorem stepK'_files (k : Dk) (own : Int) : (stepK' k own).files = k.files := by
  unfold stepK'
  split
  · rfl
  · exact (step_files own).1
def createF (k : Dk) (n : ByteArray) : Files := k.files ++ [(n, noFile)]
set_option maxRecDepth 100000 in
theorem rcreate_on {w : World} {base q : Nat} {v : Value} {k : Dk} (h : IsRef w base q v k) (g : Good k) (n : ByteArray) (hn : n.size ≤ 1000000) :
    Calls Try.prog 36 #[dp q, .string n] w (RefPost base q (actK k (createOwn isName k n) (createF k n)) (.int .i64 (stepE' k (createOwn isName k n))) w) := by
  have hl : k.files.length ≤ 200 := g.few
  obtain ⟨A, cap, rfl⟩ := own_slice h.own
  have c0 := h.c0
  have H := Hush.mk h
  have HG := Hush.mk g
  have HN := Hush.mk hn
  have hbs : base ≤ w.heap.size := Nat.le_of_lt (Nat.lt_of_le_of_lt h.ge h.lt)
  have HBS := Hush.mk hbs
  clear h g hn hbs
  obtain ⟨i0, hi0, hz0, hz1, hz2⟩ := info_parts info79
  have HI := Hush.mk (And.intro hi0 (And.intro hz0 (And.intro hz1 hz2)))
  clear hi0 hz0 hz1 hz2
  obtain ⟨own, ho⟩ : ∃ own, own = createOwn isName k n := ⟨_, rfl⟩
  rw [← ho]
  have HO2 : Hush (own = if isName n = false then 12 else if (find k.files n).isSome then 17 else if 200 ≤ k.files.length then 6 else 0) := ⟨ho⟩
  clear ho
  by_cases c1 : 200 ≤ k.files.length
  · have hl2 : (200 : Int) ≤ (k.files.length : Int) := by omega
    have hll : decide ((200 : Int) ≤ (k.files.length : Int)) = true := decide_eq_true hl2
    go_enter Try.func36, Try.ntmps36
    go_wp2_with fail
    refine (find_on H.out (by omega) n).mono ?_
    rintro e w1 ⟨rfl, hb1⟩
    have H1 := Hush.mk (H.out.below hb1)
    have HB1 : Hush (Below base w w1) := ⟨hb1.mono HBS.out⟩
    have HS1 : Hush (base ≤ w1.heap.size) := ⟨Nat.le_trans HBS.out hb1.size⟩
    clear hb1
    cases c2 : find k.files n with
    | none =>
      rw [idx_none c2]
      go_wp2_with fail
      refine (rnamed_on n HN.out _).mono ?_
      rintro e w2 ⟨rfl, rfl⟩
      cases c3 : isName n with
      | false =>
        have hown : own = 12 := by rw [HO2.out]; simp [c1, c2, c3]
        have HOW := Hush.mk hown
        clear c2 c3 hown
        go_wp2_with fail
        refine (rstep_all H1.out 12 HG.out.fuse HG.out.fault).mono ?_
        rintro e w3 ⟨rfl, hi, ht⟩
        have HB3 : Hush (Below base w w3) := ⟨HB1.out.trans (touch_base ht H.out.ge HS1.out)⟩
        have H3 := Hush.mk hi
        clear hi ht
        have hr : (stepE' k 12 == 0) = false := by
          rw [beq_eq_false_iff_ne]
          exact fun e => absurd (step0 e).1 (by decide)
        have HA : Hush (actK k 12 (createF k n) = stepK' k 12) := ⟨by unfold actK; rw [if_neg (by simpa using hr)]⟩
        obtain ⟨r, hrr⟩ : ∃ r, r = stepE' k 12 := ⟨_, rfl⟩
        rw [← hrr] at hr ⊢
        have HRR := Hush.mk hrr
        clear hrr
        go_wp2
        go_ret
        exact ⟨by rw [HOW.out, ← HRR.out]; rfl, ⟨_, by rw [HOW.out, HA.out]; exact H3.out⟩, HB3.out⟩
      | true =>
        have hown : own = 6 := by rw [HO2.out]; simp [c1, c2, c3]
        have HOW := Hush.mk hown
        clear c2 c3 hown
        go_wp2_with fail
        refine (rstep_all H1.out 6 HG.out.fuse HG.out.fault).mono ?_
        rintro e w3 ⟨rfl, hi, ht⟩
        have HB3 : Hush (Below base w w3) := ⟨HB1.out.trans (touch_base ht H.out.ge HS1.out)⟩
        have H3 := Hush.mk hi
        clear hi ht
        have hr : (stepE' k 6 == 0) = false := by
          rw [beq_eq_false_iff_ne]
          exact fun e => absurd (step0 e).1 (by decide)
        have HA : Hush (actK k 6 (createF k n) = stepK' k 6) := ⟨by unfold actK; rw [if_neg (by simpa using hr)]⟩
        obtain ⟨r, hrr⟩ : ∃ r, r = stepE' k 6 := ⟨_, rfl⟩
        rw [← hrr] at hr ⊢
        have HRR := Hush.mk hrr
        clear hrr
        go_wp2
        go_ret
        exact ⟨by rw [HOW.out, ← HRR.out]; rfl, ⟨_, by rw [HOW.out, HA.out]; exact H3.out⟩, HB3.out⟩
    | some f =>
      obtain ⟨i, e1, _, _⟩ := idx_some c2
      rw [e1]
      clear e1
      go_wp2_with fail
      refine (rnamed_on n HN.out _).mono ?_
      rintro e w2 ⟨rfl, rfl⟩
      cases c3 : isName n with
      | false =>
        have hown : own = 12 := by rw [HO2.out]; simp [c1, c2, c3]
        have HOW := Hush.mk hown
        clear c2 c3 hown
        go_wp2_with fail
        refine (rstep_all H1.out 12 HG.out.fuse HG.out.fault).mono ?_
        rintro e w3 ⟨rfl, hi, ht⟩
        have HB3 : Hush (Below base w w3) := ⟨HB1.out.trans (touch_base ht H.out.ge HS1.out)⟩
        have H3 := Hush.mk hi
        clear hi ht
        have hr : (stepE' k 12 == 0) = false := by
          rw [beq_eq_false_iff_ne]
          exact fun e => absurd (step0 e).1 (by decide)
        have HA : Hush (actK k 12 (createF k n) = stepK' k 12) := ⟨by unfold actK; rw [if_neg (by simpa using hr)]⟩
        obtain ⟨r, hrr⟩ : ∃ r, r = stepE' k 12 := ⟨_, rfl⟩
        rw [← hrr] at hr ⊢
        have HRR := Hush.mk hrr
        clear hrr
        go_wp2
        go_ret
        exact ⟨by rw [HOW.out, ← HRR.out]; rfl, ⟨_, by rw [HOW.out, HA.out]; exact H3.out⟩, HB3.out⟩
      | true =>
        have hown : own = 17 := by rw [HO2.out]; simp [c1, c2, c3]
        have HOW := Hush.mk hown
        clear c2 c3 hown
        go_wp2_with fail
        refine (rstep_all H1.out 17 HG.out.fuse HG.out.fault).mono ?_
        rintro e w3 ⟨rfl, hi, ht⟩
        have HB3 : Hush (Below base w w3) := ⟨HB1.out.trans (touch_base ht H.out.ge HS1.out)⟩
        have H3 := Hush.mk hi
        clear hi ht
        have hr : (stepE' k 17 == 0) = false := by
          rw [beq_eq_false_iff_ne]
          exact fun e => absurd (step0 e).1 (by decide)
        have HA : Hush (actK k 17 (createF k n) = stepK' k 17) := ⟨by unfold actK; rw [if_neg (by simpa using hr)]⟩
        obtain ⟨r, hrr⟩ : ∃ r, r = stepE' k 17 := ⟨_, rfl⟩
        rw [← hrr] at hr ⊢
        have HRR := Hush.mk hrr
        clear hrr
        go_wp2
        go_ret
        exact ⟨by rw [HOW.out, ← HRR.out]; rfl, ⟨_, by rw [HOW.out, HA.out]; exact H3.out⟩, HB3.out⟩
  · have hl2 : (k.files.length : Int) < 200 := by omega
    have hll : decide ((200 : Int) ≤ (k.files.length : Int)) = false := decide_eq_false (by omega)
    go_enter Try.func36, Try.ntmps36
    go_wp2_with fail
    refine (find_on H.out (by omega) n).mono ?_
    rintro e w1 ⟨rfl, hb1⟩
    have H1 := Hush.mk (H.out.below hb1)
    have HB1 : Hush (Below base w w1) := ⟨hb1.mono HBS.out⟩
    have HS1 : Hush (base ≤ w1.heap.size) := ⟨Nat.le_trans HBS.out hb1.size⟩
    clear hb1
    cases c2 : find k.files n with
    | none =>
      rw [idx_none c2]
      go_wp2_with fail
      refine (rnamed_on n HN.out _).mono ?_
      rintro e w2 ⟨rfl, rfl⟩
      cases c3 : isName n with
      | false =>
        have hown : own = 12 := by rw [HO2.out]; simp [c1, c2, c3]
        have HOW := Hush.mk hown
        clear c2 c3 hown
        go_wp2_with fail
        refine (rstep_all H1.out 12 HG.out.fuse HG.out.fault).mono ?_
        rintro e w3 ⟨rfl, hi, ht⟩
        have HB3 : Hush (Below base w w3) := ⟨HB1.out.trans (touch_base ht H.out.ge HS1.out)⟩
        have H3 := Hush.mk hi
        clear hi ht
        have hr : (stepE' k 12 == 0) = false := by
          rw [beq_eq_false_iff_ne]
          exact fun e => absurd (step0 e).1 (by decide)
        have HA : Hush (actK k 12 (createF k n) = stepK' k 12) := ⟨by unfold actK; rw [if_neg (by simpa using hr)]⟩
        obtain ⟨r, hrr⟩ : ∃ r, r = stepE' k 12 := ⟨_, rfl⟩
        rw [← hrr] at hr ⊢
        have HRR := Hush.mk hrr
        clear hrr
        go_wp2
        go_ret
        exact ⟨by rw [HOW.out, ← HRR.out]; rfl, ⟨_, by rw [HOW.out, HA.out]; exact H3.out⟩, HB3.out⟩
      | true =>
        have hown : own = 0 := by rw [HO2.out]; simp [c1, c2, c3]
        have HOW := Hush.mk hown
        clear c2 c3 hown
        go_wp2_with fail
        refine (rstep_all H1.out 0 HG.out.fuse HG.out.fault).mono ?_
        rintro e w3 ⟨rfl, hi, ht⟩
        have HB3 : Hush (Below base w w3) := ⟨HB1.out.trans (touch_base ht H.out.ge HS1.out)⟩
        have H3 := Hush.mk hi
        clear hi ht
        by_cases hr0 : stepE' k 0 = 0
        · have HA : Hush (actK k 0 (createF k n) = { stepK' k 0 with files := createF k n }) := ⟨by unfold actK; rw [if_pos hr0]⟩
          rw [hr0]
          have HR0 := Hush.mk hr0
          clear hr0
          have HFI : Hush ((stepK' k 0).files = k.files) := ⟨stepK'_files k 0⟩
          have ho3 := H3.out.own
          rw [HFI.out] at ho3
          have HOW3 := Hush.mk ho3
          have c03 := H3.out.c0
          have hA := World.alloc_heap_new w3 (.cells #[.string n, .string ⟨#[]⟩, .int .i64 0] 79)
          have HNW := Hush.mk hA
          have HQ3 : Hush ((w3.alloc (.cells #[.string n, .string ⟨#[]⟩, .int .i64 0] 79)).heap[q]? = some (.cells (rcells (.slice A k.files.length cap) (stepK' k 0)) 68 (0, 0))) := ⟨(H3.out.alloc _).row⟩
          have HSZ3 : Hush (base ≤ w3.heap.size ∧ q < w3.heap.size) := ⟨⟨Nat.le_trans H.out.ge (Nat.le_of_lt H3.out.lt), H3.out.lt⟩⟩
          clear ho3 hA
          go_wp2_with ((at_builtin; refine wpList_append_lies _ rfl _ _ 66 rfl base 79 i0 _ 3 40 Try.underlying66 HI.out.1 HI.out.2.1 HI.out.2.2.1 HI.out.2.2.2 rfl (by decide) (.slice A k.files.length cap) k.files.length (rowOf k.files) rfl (HOW3.out.alloc _) ⟨w3.heap.size, 0, none⟩ 1 1 [.string n, .string ⟨#[]⟩, .int .i64 0] rfl rfl (news3 HNW.out) (by simp [Value.oneCell']) (by decide) (by unfold maxLen; omega) (by omega) (by have := HSZ3.out.1; simp; omega) (w3.heap.size + 1) (by simp) ?_; intro gg cc w4 hown4 hgrow4 hor4 hgl4; have hq4 := (hgrow4.block q (by have := HSZ3.out.2; simp; omega) (fun e => H.out.ne (e.symm))).trans HQ3.out; have HQ4 := Hush.mk hq4; have cq4 : w4.cell? ⟨q, 0, none⟩ = some (.slice A k.files.length cap) := (by simp [World.cell?, hq4, rcells]); have fq4 : w4.frozen? ⟨q, 0, none⟩ = false := (by simp [World.frozen?, hq4]); clear hq4))
          have HR4 : Hush (IsRef (w4.setCell ⟨q, 0, none⟩ (.slice (some ⟨gg, 0, none⟩) (k.files.length + 1) cc)) base q (.slice (some ⟨gg, 0, none⟩) (k.files.length + 1) cc) { stepK' k 0 with files := createF k n }) := ⟨by
            refine IsRef.swap HQ4.out H.out.ge ?_ ?_ rfl
            · show w4.ownsRow base 79 3 _ (k.files ++ [(n, noFile)]).length (rowOf (k.files ++ [(n, noFile)]))
              rw [rowOf_app, List.length_append]
              exact hown4
            · intro e
              simp only [Value.ownBlock, Option.some.injEq] at e
              rcases hor4 with h | h
              · exact H.out.ne (by rw [h, e])
              · have := HSZ3.out.2; omega⟩
          have HBF : Hush (Below base w (w4.setCell ⟨q, 0, none⟩ (.slice (some ⟨gg, 0, none⟩) (k.files.length + 1) cc))) := ⟨((HB3.out.alloc HSZ3.out.1 _).grown hgrow4 (by have := HSZ3.out.1; simp; omega) (fun r hr => (HOW3.out.lt r hr).1)).setCell (p := ⟨q, 0, none⟩) H.out.ge _⟩
          clear hown4 hgrow4 hor4 hgl4 cq4 fq4
          go_wp2
          go_ret
          exact ⟨by rw [HOW.out, HR0.out]; rfl, ⟨_, by rw [HOW.out, HA.out]; exact HR4.out⟩, HBF.out⟩
        · have hr : (stepE' k 0 == 0) = false := by simpa using hr0
          have HA : Hush (actK k 0 (createF k n) = stepK' k 0) := ⟨by unfold actK; rw [if_neg hr0]⟩
          clear hr0
          obtain ⟨r, hrr⟩ : ∃ r, r = stepE' k 0 := ⟨_, rfl⟩
          rw [← hrr] at hr ⊢
          have HRR := Hush.mk hrr
          clear hrr
          go_wp2
          go_ret
          exact ⟨by rw [HOW.out, ← HRR.out]; rfl, ⟨_, by rw [HOW.out, HA.out]; exact H3.out⟩, HB3.out⟩
    | some f =>
      obtain ⟨i, e1, _, _⟩ := idx_some c2
      rw [e1]
      clear e1
      go_wp2_with fail
      refine (rnamed_on n HN.out _).mono ?_
      rintro e w2 ⟨rfl, rfl⟩
      cases c3 : isName n with
      | false =>
        have hown : own = 12 := by rw [HO2.out]; simp [c1, c2, c3]
        have HOW := Hush.mk hown
        clear c2 c3 hown
        go_wp2_with fail
        refine (rstep_all H1.out 12 HG.out.fuse HG.out.fault).mono ?_
        rintro e w3 ⟨rfl, hi, ht⟩
        have HB3 : Hush (Below base w w3) := ⟨HB1.out.trans (touch_base ht H.out.ge HS1.out)⟩
        have H3 := Hush.mk hi
        clear hi ht
        have hr : (stepE' k 12 == 0) = false := by
          rw [beq_eq_false_iff_ne]
          exact fun e => absurd (step0 e).1 (by decide)
        have HA : Hush (actK k 12 (createF k n) = stepK' k 12) := ⟨by unfold actK; rw [if_neg (by simpa using hr)]⟩
        obtain ⟨r, hrr⟩ : ∃ r, r = stepE' k 12 := ⟨_, rfl⟩
        rw [← hrr] at hr ⊢
        have HRR := Hush.mk hrr
        clear hrr
        go_wp2
        go_ret
        exact ⟨by rw [HOW.out, ← HRR.out]; rfl, ⟨_, by rw [HOW.out, HA.out]; exact H3.out⟩, HB3.out⟩
      | true =>
        have hown : own = 17 := by rw [HO2.out]; simp [c1, c2, c3]
        have HOW := Hush.mk hown
        clear c2 c3 hown
        go_wp2_with fail
        refine (rstep_all H1.out 17 HG.out.fuse HG.out.fault).mono ?_
        rintro e w3 ⟨rfl, hi, ht⟩
        have HB3 : Hush (Below base w w3) := ⟨HB1.out.trans (touch_base ht H.out.ge HS1.out)⟩
        have H3 := Hush.mk hi
        clear hi ht
        have hr : (stepE' k 17 == 0) = false := by
          rw [beq_eq_false_iff_ne]
          exact fun e => absurd (step0 e).1 (by decide)
        have HA : Hush (actK k 17 (createF k n) = stepK' k 17) := ⟨by unfold actK; rw [if_neg (by simpa using hr)]⟩
        obtain ⟨r, hrr⟩ : ∃ r, r = stepE' k 17 := ⟨_, rfl⟩
        rw [← hrr] at hr ⊢
        have HRR := Hush.mk hrr
        clear hrr
        go_wp2
        go_ret
        exact ⟨by rw [HOW.out, ← HRR.out]; rfl, ⟨_, by rw [HOW.out, HA.out]; exact H3.out⟩, HB3.out⟩
end Go.Proofs.Yteilnbnnhocciaa.D

/-! D37 -/
set_option linter.unusedVariables false
set_option linter.unusedSimpArgs false
namespace Go.Proofs.Yteilnbnnhocciaa.D
open Go.RowKit Go.Maps Go.ChangeMaps Go.MapKept Go.WideMaps Go.Sort Go.Proofs.YteilnbnnhocciaaW.PrintWords Go.Proofs.YteilnbnnhocciaaW.PrintLast Go.Proofs.YteilnbnnhocciaaW.PrintMore
theorem idx_neg {k : Dk} {n : ByteArray} (h : find k.files n = none) : thereE k n = 16 ∧ idxOf k.files n = -1 := ⟨by unfold thereE; rw [h]; rfl, idx_none h⟩
theorem idx_pos {k : Dk} {n : ByteArray} {f : FileV} (h : find k.files n = some f) : thereE k n = 0 ∧ ∃ i : Nat, idxOf k.files n = i ∧ k.files[i]? = some (n, f) := by
  obtain ⟨i, h1, h2, _⟩ := idx_some h
  exact ⟨by unfold thereE; rw [h]; rfl, i, h1, h2⟩
theorem actK_no {k : Dk} {own : Int} {F : Files} (h : stepE' k own ≠ 0) : actK k own F = stepK' k own := by unfold actK; rw [if_neg h]
theorem actK_yes {k : Dk} {own : Int} {F : Files} (h : stepE' k own = 0) : actK k own F = { stepK' k own with files := F } := by unfold actK; rw [if_pos h]
set_option maxRecDepth 100000 in
theorem rdelete_on {w : World} {base q : Nat} {v : Value} {k : Dk} (h : IsRef w base q v k) (g : Good k) (n : ByteArray) :
    Calls Try.prog 39 #[dp q, .string n] w (RefPost base q (actK k (thereE k n) (gone k.files n)) (.int .i64 (stepE' k (thereE k n))) w) := by
  have hl : k.files.length ≤ 200 := g.few
  have H := Hush.mk h
  have HG := Hush.mk g
  have hbs : base ≤ w.heap.size := Nat.le_of_lt (Nat.lt_of_le_of_lt h.ge h.lt)
  have HBS := Hush.mk hbs
  obtain ⟨own, ho⟩ : ∃ own, own = thereE k n := ⟨_, rfl⟩
  have HO := Hush.mk ho
  rw [← ho]
  clear h g hbs ho
  go_enter Try.func39, Try.ntmps39
  go_wp2_with fail
  refine (find_on H.out (by omega) n).mono ?_
  rintro e w1 ⟨rfl, hb1⟩
  have H1 := Hush.mk (H.out.below hb1)
  have HB1 : Hush (Below base w w1) := ⟨hb1.mono HBS.out⟩
  have HS1 : Hush (base ≤ w1.heap.size) := ⟨Nat.le_trans HBS.out hb1.size⟩
  clear hb1
  cases hf : find k.files n with
  | none =>
    obtain ⟨t1, t2⟩ := idx_neg hf
    have hown : own = 16 := by rw [HO.out, t1]
    have HOW := Hush.mk hown
    rw [t2]
    clear hf t1 t2 hown
    go_wp2_with fail
    refine (rstep_all H1.out 16 HG.out.fuse HG.out.fault).mono ?_
    rintro e w3 ⟨rfl, hi, ht⟩
    have HB3 : Hush (Below base w w3) := ⟨HB1.out.trans (touch_base ht H.out.ge HS1.out)⟩
    have H3 := Hush.mk hi
    clear hi ht
    have hne : stepE' k 16 ≠ 0 := fun e => absurd (step0 e).1 (by decide)
    have hr : (stepE' k 16 == 0) = false := by rw [beq_eq_false_iff_ne]; exact hne
    have HA : Hush (actK k 16 (gone k.files n) = stepK' k 16) := ⟨actK_no hne⟩
    obtain ⟨r, hrr⟩ : ∃ r, r = stepE' k 16 := ⟨_, rfl⟩
    rw [← hrr] at hr ⊢
    have HRR := Hush.mk hrr
    clear hrr hne
    go_wp2
    go_ret
    exact ⟨by rw [HOW.out, ← HRR.out]; rfl, ⟨_, by rw [HOW.out, HA.out]; exact H3.out⟩, HB3.out⟩
  | some f =>
    obtain ⟨t1, i, t2, t3⟩ := idx_pos hf
    have hown : own = 0 := by rw [HO.out, t1]
    have HOW := Hush.mk hown
    rw [t2]
    clear hf t1 t2 t3 hown
    go_wp2_with fail
    refine (rstep_all H1.out 0 HG.out.fuse HG.out.fault).mono ?_
    rintro e w3 ⟨rfl, hi, ht⟩
    have HB3 : Hush (Below base w w3) := ⟨HB1.out.trans (touch_base ht H.out.ge HS1.out)⟩
    have H3 := Hush.mk hi
    clear hi ht
    by_cases hr0 : stepE' k 0 = 0
    · have HA : Hush (actK k 0 (gone k.files n) = { stepK' k 0 with files := gone k.files n }) := ⟨actK_yes hr0⟩
      have HFI : Hush ((stepK' k 0).files = k.files) := ⟨stepK'_files k 0⟩
      rw [hr0]
      have HR0 := Hush.mk hr0
      clear hr0
      go_wp2_with fail
      refine (rgone_on H3.out (by rw [HFI.out]; omega) n).mono ?_
      rintro e w4 ⟨rfl, ⟨v4, hi4⟩, hb4⟩
      rw [HFI.out] at hi4
      have H4 := Hush.mk hi4
      have HB4 : Hush (Below base w w4) := ⟨HB3.out.trans hb4⟩
      clear hi4 hb4
      go_wp2
      go_ret
      exact ⟨by rw [HOW.out, HR0.out]; rfl, ⟨_, by rw [HOW.out, HA.out]; exact H4.out⟩, HB4.out⟩
    · have hr : (stepE' k 0 == 0) = false := by simpa using hr0
      have HA : Hush (actK k 0 (gone k.files n) = stepK' k 0) := ⟨actK_no hr0⟩
      obtain ⟨r, hrr⟩ : ∃ r, r = stepE' k 0 := ⟨_, rfl⟩
      rw [← hrr] at hr ⊢
      have HRR := Hush.mk hrr
      clear hrr hr0
      go_wp2
      go_ret
      exact ⟨by rw [HOW.out, ← HRR.out]; rfl, ⟨_, by rw [HOW.out, HA.out]; exact H3.out⟩, HB3.out⟩
theorem IsRef.setS {w : World} {base q g cap : Nat} {k k' : Dk} {i : Nat} {n : ByteArray} {f : FileV} (h : IsRef w base q (.slice (some ⟨g, 0, none⟩) k.files.length cap) k) (hi : k.files[i]? = some (n, f)) (s : ByteArray)
    (hk : k' = { k with files := k.files.set i (n, ⟨s, f.sure⟩) }) : IsRef (w.setCell ⟨g, i * 3 + 1, none⟩ (.string s)) base q (.slice (some ⟨g, 0, none⟩) k.files.length cap) k' := by
  subst hk
  obtain ⟨h1, h2⟩ := h.own.stored (i * 3 + 1) (.string s)
  refine ⟨(Below.heap_setCell w ⟨g, i * 3 + 1, none⟩ (.string s) q (fun e => h.ne (by show some g = some q; rw [show q = g from e]))).trans h.row, ?_, h.ne, h.ge⟩
  have := rowOf_set1 k.files i (n, f) hi s
  show World.ownsRow _ base 79 3 _ (k.files.set i (n, ⟨s, f.sure⟩)).length (rowOf (k.files.set i (n, ⟨s, f.sure⟩)))
  rw [List.length_set, ← this]
  exact h1
theorem IsRef.setN {w : World} {base q g cap : Nat} {k k' : Dk} {i : Nat} {n : ByteArray} {f : FileV} (h : IsRef w base q (.slice (some ⟨g, 0, none⟩) k.files.length cap) k) (hi : k.files[i]? = some (n, f)) (x : Int)
    (hk : k' = { k with files := k.files.set i (n, ⟨f.s, x⟩) }) : IsRef (w.setCell ⟨g, i * 3 + 2, none⟩ (.int .i64 x)) base q (.slice (some ⟨g, 0, none⟩) k.files.length cap) k' := by
  subst hk
  obtain ⟨h1, h2⟩ := h.own.stored (i * 3 + 2) (.int .i64 x)
  refine ⟨(Below.heap_setCell w ⟨g, i * 3 + 2, none⟩ (.int .i64 x) q (fun e => h.ne (by show some g = some q; rw [show q = g from e]))).trans h.row, ?_, h.ne, h.ge⟩
  have := rowOf_set2 k.files i (n, f) hi x
  show World.ownsRow _ base 79 3 _ (k.files.set i (n, ⟨f.s, x⟩)).length (rowOf (k.files.set i (n, ⟨f.s, x⟩)))
  rw [List.length_set, ← this]
  exact h1
theorem set_upd {l : Files} (h : (l.map (·.1)).Nodup) {i : Nat} {n : ByteArray} {f : FileV} (hi : l[i]? = some (n, f)) (f' : FileV) : l.set i (n, f') = upd l n f' := by
  induction l generalizing i with
  | nil => simp at hi
  | cons x l ih =>
    rw [List.map_cons, List.nodup_cons] at h
    cases i with
    | zero =>
      rw [List.getElem?_cons_zero] at hi
      cases hi
      have hn : find l n = none := find_none.2 h.1
      unfold upd
      rw [find_cons, if_pos rfl]
      simp only [Option.isSome_some, if_true, List.map_cons, List.set_cons_zero]
      rw [map_none f' hn]
    | succ i =>
      rw [List.getElem?_cons_succ] at hi
      have hm : n ∈ l.map (·.1) := List.mem_map.2 ⟨_, List.mem_of_getElem? hi, rfl⟩
      have hx : x.1 ≠ n := fun e => h.1 (by rw [e]; exact hm)
      have ih := ih h.2 hi
      have hs : (find l n).isSome := find_isSome.2 hm
      rw [List.set_cons_succ, ih]
      unfold upd
      rw [find_cons, if_neg hx, if_pos hs, if_pos hs, List.map_cons, if_neg hx]
end Go.Proofs.Yteilnbnnhocciaa.D

/-! D38 -/
set_option linter.unusedVariables false
set_option linter.unusedSimpArgs false
namespace Go.Proofs.Yteilnbnnhocciaa.D
open Go.RowKit Go.Maps Go.ChangeMaps Go.MapKept Go.WideMaps Go.Sort Go.Proofs.YteilnbnnhocciaaW.PrintWords Go.Proofs.YteilnbnnhocciaaW.PrintLast Go.Proofs.YteilnbnnhocciaaW.PrintMore
def syncL (k : Dk) (n : ByteArray) : Files := upd k.files n (syncF ((find k.files n).getD noFile))
set_option maxRecDepth 100000 in
theorem rsync_on {w : World} {base q : Nat} {v : Value} {k : Dk} (h : IsRef w base q v k) (g : Good k) (n : ByteArray) :
    Calls Try.prog 37 #[dp q, .string n] w (RefPost base q (actK k (thereE k n) (syncL k n)) (.int .i64 (stepE' k (thereE k n))) w) := by
  have hl : k.files.length ≤ 200 := g.few
  have H := Hush.mk h
  have HG := Hush.mk g
  have hbs : base ≤ w.heap.size := Nat.le_of_lt (Nat.lt_of_le_of_lt h.ge h.lt)
  have HBS := Hush.mk hbs
  obtain ⟨own, ho⟩ : ∃ own, own = thereE k n := ⟨_, rfl⟩
  have HO := Hush.mk ho
  rw [← ho]
  clear h g hbs ho
  go_enter Try.func37, Try.ntmps37
  go_wp2_with fail
  refine (find_on H.out (by omega) n).mono ?_
  rintro e w1 ⟨rfl, hb1⟩
  have H1 := Hush.mk (H.out.below hb1)
  have HB1 : Hush (Below base w w1) := ⟨hb1.mono HBS.out⟩
  have HS1 : Hush (base ≤ w1.heap.size) := ⟨Nat.le_trans HBS.out hb1.size⟩
  clear hb1
  cases hf : find k.files n with
  | none =>
    obtain ⟨t1, t2⟩ := idx_neg hf
    have hown : own = 16 := by rw [HO.out, t1]
    have HOW := Hush.mk hown
    rw [t2]
    clear hf t1 t2 hown
    go_wp2_with fail
    refine (rstep_all H1.out 16 HG.out.fuse HG.out.fault).mono ?_
    rintro e w3 ⟨rfl, hi, ht⟩
    have HB3 : Hush (Below base w w3) := ⟨HB1.out.trans (touch_base ht H.out.ge HS1.out)⟩
    have H3 := Hush.mk hi
    clear hi ht
    have hne : stepE' k 16 ≠ 0 := fun e => absurd (step0 e).1 (by decide)
    have hr : (stepE' k 16 == 0) = false := by rw [beq_eq_false_iff_ne]; exact hne
    have HA : Hush (actK k 16 (syncL k n) = stepK' k 16) := ⟨actK_no hne⟩
    obtain ⟨r, hrr⟩ : ∃ r, r = stepE' k 16 := ⟨_, rfl⟩
    rw [← hrr] at hr ⊢
    have HRR := Hush.mk hrr
    clear hrr hne
    go_wp2
    go_ret
    exact ⟨by rw [HOW.out, ← HRR.out]; rfl, ⟨_, by rw [HOW.out, HA.out]; exact H3.out⟩, HB3.out⟩
  | some f =>
    obtain ⟨t1, i, t2, t3⟩ := idx_pos hf
    have hown : own = 0 := by rw [HO.out, t1]
    have HOW := Hush.mk hown
    rw [t2]
    have HT3 := Hush.mk t3
    have HSL : Hush (syncL k n = upd k.files n (syncF f)) := ⟨by unfold syncL; rw [hf]; rfl⟩
    clear hf t1 t2 t3 hown
    go_wp2_with fail
    refine (rstep_all H1.out 0 HG.out.fuse HG.out.fault).mono ?_
    rintro e w3 ⟨rfl, hi, ht⟩
    have HB3 : Hush (Below base w w3) := ⟨HB1.out.trans (touch_base ht H.out.ge HS1.out)⟩
    have H3 := Hush.mk hi
    clear hi ht
    by_cases hr0 : stepE' k 0 = 0
    · have HA : Hush (actK k 0 (syncL k n) = { stepK' k 0 with files := syncL k n }) := ⟨actK_yes hr0⟩
      have HFI : Hush ((stepK' k 0).files = k.files) := ⟨stepK'_files k 0⟩
      rw [hr0]
      have HR0 := Hush.mk hr0
      clear hr0
      have hd3 := H3.out.drew
      have hi3 : (stepK' k 0).files[i]? = some (n, f) := by rw [HFI.out]; exact HT3.out
      have hilt : i < (stepK' k 0).files.length := (List.getElem?_eq_some_iff.1 hi3).1
      obtain ⟨gb, cap, rfl, hgq, hgb, hglt, hcap, hat⟩ := hd3.at_ (by omega)
      obtain ⟨a1, a2, a3, _, f2⟩ := hat i _ hi3
      have HP : Hush (IsRef (w3.drew.setCell ⟨gb, i * 3 + 2, none⟩ (.int .i64 (f.s.size : Nat))) base q (.slice (some ⟨gb, 0, none⟩) (stepK' k 0).files.length cap) { stepK' k 0 with files := syncL k n }) := ⟨hd3.setN hi3 _ (by rw [HSL.out, HFI.out, set_upd HG.out.nodup HT3.out]; rfl)⟩
      have HBF : Hush (Below base w (w3.drew.setCell ⟨gb, i * 3 + 2, none⟩ (.int .i64 (f.s.size : Nat)))) := ⟨(HB3.out.trans (Below.drew (Below.refl _ _))).setCell (p := ⟨gb, i * 3 + 2, none⟩) hgb _⟩
      have d0 := hd3.c0
      have hi2 : (i : Int) < ((stepK' k 0).files.length : Int) := by omega
      have hi0 : (0 : Int) ≤ (i : Int) := by omega
      obtain ⟨s, su⟩ := f
      simp only at a1 a2 a3 HP HBF
      clear hat hgq hgb hglt hcap hi3 hd3
      go_wp2
      go_still_tail 16, (by kernel_rfl)
      change wpList _ _ _ _ _ w3.drew
      generalize w3.drew = w4 at d0 a1 a2 a3 f2 HP HBF ⊢
      go_wp2
      go_ret
      exact ⟨by rw [HOW.out, HR0.out]; rfl, ⟨_, by rw [HOW.out, HA.out]; exact HP.out⟩, HBF.out⟩
    · have hr : (stepE' k 0 == 0) = false := by simpa using hr0
      have HA : Hush (actK k 0 (syncL k n) = stepK' k 0) := ⟨actK_no hr0⟩
      obtain ⟨r, hrr⟩ : ∃ r, r = stepE' k 0 := ⟨_, rfl⟩
      rw [← hrr] at hr ⊢
      have HRR := Hush.mk hrr
      clear hrr hr0
      go_wp2
      go_ret
      exact ⟨by rw [HOW.out, ← HRR.out]; rfl, ⟨_, by rw [HOW.out, HA.out]; exact H3.out⟩, HB3.out⟩
end Go.Proofs.Yteilnbnnhocciaa.D

/-! D39 -/
set_option linter.unusedVariables false
set_option linter.unusedSimpArgs false
namespace Go.Proofs.Yteilnbnnhocciaa.D
open Go.RowKit Go.Maps Go.ChangeMaps Go.MapKept Go.WideMaps Go.Sort Go.Proofs.YteilnbnnhocciaaW.PrintWords Go.Proofs.YteilnbnnhocciaaW.PrintLast Go.Proofs.YteilnbnnhocciaaW.PrintMore
def appendL (k : Dk) (n s : ByteArray) : Files := upd k.files n (appendF ((find k.files n).getD noFile) s)
set_option maxRecDepth 100000 in
set_option maxHeartbeats 1000000 in
theorem rappend_on {w : World} {base q : Nat} {v : Value} {k : Dk} (h : IsRef w base q v k) (g : Good k) (n s : ByteArray) (hs : s.size ≤ 1000000000) :
    Calls Try.prog 42 #[dp q, .string n, .string s] w (RefPost base q (actK k (appendOwn k n s) (appendL k n s)) (.int .i64 (stepE' k (appendOwn k n s))) w) := by
  have hl : k.files.length ≤ 200 := g.few
  have hu : (usedN k.files : Int) ≤ 16777216 := by have := g.used; omega
  have hss : (s.size : Int) ≤ 1000000000 := by omega
  have hr0 := g.room.1
  have hr1 := g.room.2
  have H := Hush.mk h
  have HG := Hush.mk g
  have hbs : base ≤ w.heap.size := Nat.le_of_lt (Nat.lt_of_le_of_lt h.ge h.lt)
  have HBS := Hush.mk hbs
  obtain ⟨own, ho⟩ : ∃ own, own = appendOwn k n s := ⟨_, rfl⟩
  have HO := Hush.mk ho
  rw [← ho]
  clear h g hbs ho
  go_enter Try.func42, Try.ntmps42
  go_wp2_with fail
  refine (find_on H.out (by omega) n).mono ?_
  rintro e w0 ⟨rfl, hb0⟩
  have H0 := Hush.mk (H.out.below hb0)
  have HB0 : Hush (Below base w w0) := ⟨hb0.mono HBS.out⟩
  have HS0 : Hush (base ≤ w0.heap.size) := ⟨Nat.le_trans HBS.out hb0.size⟩
  have c1 := H0.out.c1
  have hw := IntWalk.i64_in ((usedN k.files : Int) + (s.size : Int)) (by omega)
  clear hb0
  by_cases hx : k.room < (usedN k.files : Int) + (s.size : Int)
  · go_wp2_with fail
    go_region_held3 (fun w' => w'.cell? ⟨q, 1, none⟩ = some (.int .i64 k.room)) (first | exact (H0.out.drew.below (by assumption)).c1 | go_keep) (((go_at_call 45; refine (rused_on H0.out.drew HG.out).mono ?_; rintro e w1 ⟨rfl, hb1⟩)))
    have H1 := Hush.mk (H0.out.drew.below hb1)
    have HB1 : Hush (Below base w w1) := ⟨HB0.out.trans ((Below.drew (Below.refl _ _)).trans (hb1.mono HS0.out))⟩
    have HS1 : Hush (base ≤ w1.heap.size) := ⟨Nat.le_trans HS0.out hb1.size⟩
    clear hb1 hw
    cases hf : find k.files n with
    | none =>
      rw [(idx_neg hf).2]
      have hown : own = 16 := by rw [HO.out]; unfold appendOwn; simp [hf]
      have HOW := Hush.mk hown
      clear hf hown
      go_wp2_with fail
      refine (rstep_all H1.out 16 HG.out.fuse HG.out.fault).mono ?_
      rintro e w3 ⟨rfl, hi, ht⟩
      have HB3 : Hush (Below base w w3) := ⟨HB1.out.trans (touch_base ht H.out.ge HS1.out)⟩
      have H3 := Hush.mk hi
      clear hi ht hx
      have hne : stepE' k 16 ≠ 0 := fun e => absurd (step0 e).1 (by decide)
      have hr : (stepE' k 16 == 0) = false := by rw [beq_eq_false_iff_ne]; exact hne
      have HA : Hush (actK k 16 (appendL k n s) = stepK' k 16) := ⟨actK_no hne⟩
      obtain ⟨r, hrr⟩ : ∃ r, r = stepE' k 16 := ⟨_, rfl⟩
      rw [← hrr] at hr ⊢
      have HRR := Hush.mk hrr
      clear hrr
      go_wp2
      go_ret
      exact ⟨by rw [HOW.out, ← HRR.out]; rfl, ⟨_, by rw [HOW.out, HA.out]; exact H3.out⟩, HB3.out⟩
    | some f =>
      obtain ⟨_, i, t2, t3⟩ := idx_pos hf
      rw [t2]
      have HT3 := Hush.mk t3
      have HFF := Hush.mk hf
      have HSL : Hush (appendL k n s = upd k.files n (appendF f s)) := ⟨by unfold appendL; rw [hf]; rfl⟩
      clear t2 t3
      have hown : own = 14 := by rw [HO.out]; unfold appendOwn; simp [hf, hx]
      have HOW := Hush.mk hown
      clear hf hown
      go_wp2_with fail
      refine (rstep_all H1.out 14 HG.out.fuse HG.out.fault).mono ?_
      rintro e w3 ⟨rfl, hi, ht⟩
      have HB3 : Hush (Below base w w3) := ⟨HB1.out.trans (touch_base ht H.out.ge HS1.out)⟩
      have H3 := Hush.mk hi
      clear hi ht hx
      have hne : stepE' k 14 ≠ 0 := fun e => absurd (step0 e).1 (by decide)
      have hr : (stepE' k 14 == 0) = false := by rw [beq_eq_false_iff_ne]; exact hne
      have HA : Hush (actK k 14 (appendL k n s) = stepK' k 14) := ⟨actK_no hne⟩
      obtain ⟨r, hrr⟩ : ∃ r, r = stepE' k 14 := ⟨_, rfl⟩
      rw [← hrr] at hr ⊢
      have HRR := Hush.mk hrr
      clear hrr
      go_wp2
      go_ret
      exact ⟨by rw [HOW.out, ← HRR.out]; rfl, ⟨_, by rw [HOW.out, HA.out]; exact H3.out⟩, HB3.out⟩
  · go_wp2_with fail
    go_region_held3 (fun w' => w'.cell? ⟨q, 1, none⟩ = some (.int .i64 k.room)) (first | exact (H0.out.drew.below (by assumption)).c1 | go_keep) (((go_at_call 45; refine (rused_on H0.out.drew HG.out).mono ?_; rintro e w1 ⟨rfl, hb1⟩)))
    have H1 := Hush.mk (H0.out.drew.below hb1)
    have HB1 : Hush (Below base w w1) := ⟨HB0.out.trans ((Below.drew (Below.refl _ _)).trans (hb1.mono HS0.out))⟩
    have HS1 : Hush (base ≤ w1.heap.size) := ⟨Nat.le_trans HS0.out hb1.size⟩
    clear hb1 hw
    cases hf : find k.files n with
    | none =>
      rw [(idx_neg hf).2]
      have hown : own = 16 := by rw [HO.out]; unfold appendOwn; simp [hf]
      have HOW := Hush.mk hown
      clear hf hown
      go_wp2_with fail
      refine (rstep_all H1.out 16 HG.out.fuse HG.out.fault).mono ?_
      rintro e w3 ⟨rfl, hi, ht⟩
      have HB3 : Hush (Below base w w3) := ⟨HB1.out.trans (touch_base ht H.out.ge HS1.out)⟩
      have H3 := Hush.mk hi
      clear hi ht hx
      have hne : stepE' k 16 ≠ 0 := fun e => absurd (step0 e).1 (by decide)
      have hr : (stepE' k 16 == 0) = false := by rw [beq_eq_false_iff_ne]; exact hne
      have HA : Hush (actK k 16 (appendL k n s) = stepK' k 16) := ⟨actK_no hne⟩
      obtain ⟨r, hrr⟩ : ∃ r, r = stepE' k 16 := ⟨_, rfl⟩
      rw [← hrr] at hr ⊢
      have HRR := Hush.mk hrr
      clear hrr
      go_wp2
      go_ret
      exact ⟨by rw [HOW.out, ← HRR.out]; rfl, ⟨_, by rw [HOW.out, HA.out]; exact H3.out⟩, HB3.out⟩
    | some f =>
      obtain ⟨_, i, t2, t3⟩ := idx_pos hf
      rw [t2]
      have HT3 := Hush.mk t3
      have HFF := Hush.mk hf
      have HSL : Hush (appendL k n s = upd k.files n (appendF f s)) := ⟨by unfold appendL; rw [hf]; rfl⟩
      clear t2 t3
      have hown : own = 0 := by rw [HO.out]; unfold appendOwn; simp [hf, hx]
      have HOW := Hush.mk hown
      clear hf hown
      go_wp2_with fail
      refine (rstep_all H1.out 0 HG.out.fuse HG.out.fault).mono ?_
      rintro e w3 ⟨rfl, hi, ht⟩
      have HB3 : Hush (Below base w w3) := ⟨HB1.out.trans (touch_base ht H.out.ge HS1.out)⟩
      have H3 := Hush.mk hi
      clear hi ht hx
      by_cases hr0 : stepE' k 0 = 0
      · have HA : Hush (actK k 0 (appendL k n s) = { stepK' k 0 with files := appendL k n s }) := ⟨actK_yes hr0⟩
        have HFI : Hush ((stepK' k 0).files = k.files) := ⟨stepK'_files k 0⟩
        rw [hr0]
        have HR0 := Hush.mk hr0
        clear hr0
        have hd3 := H3.out.drew
        have hi3 : (stepK' k 0).files[i]? = some (n, f) := by rw [HFI.out]; exact HT3.out
        have hilt : i < (stepK' k 0).files.length := (List.getElem?_eq_some_iff.1 hi3).1
        obtain ⟨gb, cap, rfl, hgq, hgb, hglt, hcap, hat⟩ := hd3.at_ (by omega)
        obtain ⟨a1, a2, a3, f1, _⟩ := hat i _ hi3
        have HP : Hush (IsRef (w3.drew.setCell ⟨gb, i * 3 + 1, none⟩ (.string (f.s ++ s))) base q (.slice (some ⟨gb, 0, none⟩) (stepK' k 0).files.length cap) { stepK' k 0 with files := appendL k n s }) := ⟨hd3.setS hi3 _ (by rw [HSL.out, HFI.out, set_upd HG.out.nodup HT3.out]; rfl)⟩
        have HBF : Hush (Below base w (w3.drew.setCell ⟨gb, i * 3 + 1, none⟩ (.string (f.s ++ s)))) := ⟨(HB3.out.trans (Below.drew (Below.refl _ _))).setCell (p := ⟨gb, i * 3 + 1, none⟩) hgb _⟩
        have d0 := hd3.c0
        have hi2 : (i : Int) < ((stepK' k 0).files.length : Int) := by omega
        have hi0 : (0 : Int) ≤ (i : Int) := by omega
        have hfs : f.s.size ≤ 16777216 := (HG.out.find HFF.out).2.1
        have hadd := fun W => run_string_add_sum (P := Try.prog) W f.s s (by omega)
        obtain ⟨fs, su⟩ := f
        simp only at a1 a2 a3 HP HBF hadd
        clear hat hgq hgb hglt hcap hi3 hd3 hfs
        go_wp2
        go_still_tail 17, (by kernel_rfl)
        change wpList _ _ _ _ _ w3.drew
        clear hadd
        generalize w3.drew = w4 at d0 a1 a2 a3 f1 HP HBF ⊢
        go_wp2
        go_ret
        exact ⟨by rw [HOW.out, HR0.out]; rfl, ⟨_, by rw [HOW.out, HA.out]; exact HP.out⟩, HBF.out⟩
      · have hr : (stepE' k 0 == 0) = false := by simpa using hr0
        have HA : Hush (actK k 0 (appendL k n s) = stepK' k 0) := ⟨actK_no hr0⟩
        obtain ⟨r, hrr⟩ : ∃ r, r = stepE' k 0 := ⟨_, rfl⟩
        rw [← hrr] at hr ⊢
        have HRR := Hush.mk hrr
        clear hrr
        go_wp2
        go_ret
        exact ⟨by rw [HOW.out, ← HRR.out]; rfl, ⟨_, by rw [HOW.out, HA.out]; exact H3.out⟩, HB3.out⟩
end Go.Proofs.Yteilnbnnhocciaa.D
