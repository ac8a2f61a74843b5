/- VersionWhole: the card of the statement VersionWhole, with no condition: what a pick has is all that overlaps it, a version made of another one's files is that one, edits change no version. (part 3 of 8; packed by program out of the texts named below) -/
import Derived.Test.YteilnbnnhocciaaDoorXJ2
import Derived.Maps.AppendAt
set_option linter.unusedVariables false
set_option linter.unusedSimpArgs false

/-! V12 -/
namespace Go.Proofs.YteilnbnnhocciaaDoor.V
open Go.Proofs Go.RowKit Go.BigFrame Go.Proofs.YteilnbnnhocciaaDoorM Go.Proofs.YteilnbnnhocciaaDoorW.PrintWords Go.Proofs.YteilnbnnhocciaaDoorW.PrintLast Go.Proofs.YteilnbnnhocciaaDoorW.PrintMore Go.Proofs.YteilnbnnhocciaaDoor.KV
def okB (lv:Int) (f:FileV):Bool:=decide (edit_wrong.val lv f.num f.least f.most = 0)
def filesB (lv:Int):List Int → List FileV → Bool
 | _,[]=>true
 | S,f :: r=>(!S.contains f.num && okB lv f) && filesB lv (f.num :: S) r
def seenOf:List Int → List FileV → List Int
 | S,[]=>S
 | S,f :: r=>seenOf (f.num :: S) r
def rightL:Nat → List Int → List (List FileV) → Bool
 | _,_,[]=>true
 | lv,S,L :: r=>(filesB lv S L && risesB lv L) && rightL (lv + 1) (seenOf S L) r
def rightB (Ls:List (List FileV)):Bool:=rightL 0 [] Ls
theorem filesB_step (lv:Int) (S:List Int) (L:List FileV) (k:Nat) (f:FileV) (h:L[k]? = some f):filesB lv S (L.drop k) = ((!S.contains f.num && okB lv f) && filesB lv (f.num :: S) (L.drop (k + 1))):=by
 obtain ⟨h1,e1⟩:=List.getElem?_eq_some_iff.1 h
 rw [List.drop_eq_getElem_cons h1,e1]
 rfl
theorem seenOf_step (S:List Int) (L:List FileV) (k:Nat) (f:FileV) (h:L[k]? = some f):seenOf S (L.drop k) = seenOf (f.num :: S) (L.drop (k + 1)):=by
 obtain ⟨h1,e1⟩:=List.getElem?_eq_some_iff.1 h
 rw [List.drop_eq_getElem_cons h1,e1]
 rfl
theorem check_val (x:S107):edit_Edit_Check.f 0 0 0 [x] [] = some (edit_wrong.val x.f0 x.f1.f0 x.f1.f3 x.f1.f4):=by
 unfold edit_Edit_Check.f edit_Edit_Check.val
 rw [if_neg (by simp)]
 simp only [edit_firstWrong,List.any_nil]
 by_cases c:edit_wrong.val x.f0 x.f1.f0 x.f1.f3 x.f1.f4 = 0
 ·simp [c]
 ·simp [c]
theorem one_row (x:S107) (b:Nat) (w:World) (h0:w.cell? ⟨b,0,none⟩ = some (.int .i64 x.f0)) (h1:w.cell? ⟨b,1,none⟩ = some (.int .u64 x.f1.f0)) (h2:w.cell? ⟨b,2,none⟩ = some (.int .u64 x.f1.f1)) (h3:w.cell? ⟨b,3,none⟩ = some (.int .u64 x.f1.f2)) (h4:w.cell? ⟨b,4,none⟩ = some (.string x.f1.f3)) (h5:w.cell? ⟨b,5,none⟩ = some (.string x.f1.f4)) :
  Kd.C k107 w (some ⟨b,0,none⟩) [x].length [x]:=by
 refine ⟨rfl,by rw [List.length_singleton];omega,fun _=>⟨⟨b,0,none⟩,rfl,fun j p hj=>?_⟩⟩
 match j,hj with
 | 0,hj=>
  obtain rfl:=Option.some.inj hj
  refine ⟨_,rfl,k107_mk w _,fun i u hu=>?_⟩
  match i,hu with
  | 0,hu=>obtain rfl:=Option.some.inj hu;exact h0
  | 1,hu=>obtain rfl:=Option.some.inj hu;exact h1
  | 2,hu=>obtain rfl:=Option.some.inj hu;exact h2
  | 3,hu=>obtain rfl:=Option.some.inj hu;exact h3
  | 4,hu=>obtain rfl:=Option.some.inj hu;exact h4
  | 5,hu=>obtain rfl:=Option.some.inj hu;exact h5
 | j + 1,hj=>simp at hj
theorem check_one (x:S107) (b:Nat) (w:World) (h0:w.cell? ⟨b,0,none⟩ = some (.int .i64 x.f0)) (h1:w.cell? ⟨b,1,none⟩ = some (.int .u64 x.f1.f0)) (h2:w.cell? ⟨b,2,none⟩ = some (.int .u64 x.f1.f1)) (h3:w.cell? ⟨b,3,none⟩ = some (.int .u64 x.f1.f2)) (h4:w.cell? ⟨b,4,none⟩ = some (.string x.f1.f3)) (h5:w.cell? ⟨b,5,none⟩ = some (.string x.f1.f4)) :
  Calls Tryd.prog 20 #[.agg #[.int .u64 0,.int .u64 0,.int .u64 0,.slice (some ⟨b,0,none⟩) 1 1,.slice none 0 0]] w fun e w'=>e = .returned (.int .i64 (edit_wrong.val x.f0 x.f1.f0 x.f1.f3 x.f1.f4)) ∧ Below w.heap.size w w':=
 edit_Edit_Check.calls 0 0 0 (some ⟨b,0,none⟩) 1 [x] none 0 [] _ w (one_row x b w h0 h1 h2 h3 h4 h5) (Nat.le_refl _) (Kd.C_nil _ _) (Nat.le_refl _) (check_val x)
theorem six_at (W:World) (u0 u1 u2 u3 u4 u5:Value) (t:TypeId) (b:Nat) (hb:b = W.heap.size) (i:Nat) (v:Value) (h:(#[u0,u1,u2,u3,u4,u5]:Array Value)[i]? = some v):(W.alloc (.cells #[u0,u1,u2,u3,u4,u5] t)).cell? ⟨b,i,none⟩ = some v:=by
 subst hb
 have e:=World.alloc_heap_new W (.cells #[u0,u1,u2,u3,u4,u5] t)
 simp only [World.cell?,e]
 exact h
theorem check_new (lv f0 f1 f2:Int) (f3 f4:ByteArray) (W:World) (t:TypeId) (b:Nat) (hb:b = W.heap.size) (r:Int) (hr:r = edit_wrong.val lv f0 f3 f4) :
  Calls Tryd.prog 20 #[.agg #[.int .u64 0,.int .u64 0,.int .u64 0,.slice (some ⟨b,0,none⟩) 1 1,.slice none 0 0]] (W.alloc (.cells #[.int .i64 lv,.int .u64 f0,.int .u64 f1,.int .u64 f2,.string f3,.string f4] t)) fun e w'=>
   e = .returned (.int .i64 r) ∧ Below (W.alloc (.cells #[.int .i64 lv,.int .u64 f0,.int .u64 f1,.int .u64 f2,.string f3,.string f4] t)).heap.size (W.alloc (.cells #[.int .i64 lv,.int .u64 f0,.int .u64 f1,.int .u64 f2,.string f3,.string f4] t)) w':=by
 rw [hr]
 exact check_one ⟨lv,⟨f0,f1,f2,f3,f4⟩⟩ b _ (six_at W _ _ _ _ _ _ t b hb 0 _ rfl) (six_at W _ _ _ _ _ _ t b hb 1 _ rfl) (six_at W _ _ _ _ _ _ t b hb 2 _ rfl) (six_at W _ _ _ _ _ _ t b hb 3 _ rfl) (six_at W _ _ _ _ _ _ t b hb 4 _ rfl) (six_at W _ _ _ _ _ _ t b hb 5 _ rfl)
theorem index77 (s0 s1 s2 s3:Value) (w:World):(Instr.index 77 (.agg #[s0,s1,s2,s3]) (.int .i64 0)).run Tryd.prog w = .ok s0 w ∧ (Instr.index 77 (.agg #[s0,s1,s2,s3]) (.int .i64 1)).run Tryd.prog w = .ok s1 w ∧ (Instr.index 77 (.agg #[s0,s1,s2,s3]) (.int .i64 2)).run Tryd.prog w = .ok s2 w ∧ (Instr.index 77 (.agg #[s0,s1,s2,s3]) (.int .i64 3)).run Tryd.prog w = .ok s3 w:=
 ⟨by kernel_rfl,by kernel_rfl,by kernel_rfl,by kernel_rfl⟩
theorem index77_0 (s0 s1 s2 s3:Value) (w:World):(Instr.index 77 (.agg #[s0,s1,s2,s3]) (.int .i64 0)).run Tryd.prog w = .ok s0 w:=(index77 s0 s1 s2 s3 w).1
theorem index77_1 (s0 s1 s2 s3:Value) (w:World):(Instr.index 77 (.agg #[s0,s1,s2,s3]) (.int .i64 1)).run Tryd.prog w = .ok s1 w:=(index77 s0 s1 s2 s3 w).2.1
theorem index77_2 (s0 s1 s2 s3:Value) (w:World):(Instr.index 77 (.agg #[s0,s1,s2,s3]) (.int .i64 2)).run Tryd.prog w = .ok s2 w:=(index77 s0 s1 s2 s3 w).2.2.1
theorem index77_3 (s0 s1 s2 s3:Value) (w:World):(Instr.index 77 (.agg #[s0,s1,s2,s3]) (.int .i64 3)).run Tryd.prog w = .ok s3 w:=(index77 s0 s1 s2 s3 w).2.2.2
attribute [local go_sem ↓] index77_0 index77_1 index77_2 index77_3
def rightJ (w:World) (m:Nat) (Ls:List (List FileV)) (j:Nat) (wr:World):Prop:=
 ∃ S,rightB Ls = rightL j S (Ls.drop j) ∧ Seen wr m S ∧ S.length ≤ j * 1000000 ∧ Below w.heap.size w wr ∧ w.heap.size ≤ m
def rightK (w:World) (m:Nat) (Ls:List (List FileV)) (j:Nat) (L:List FileV) (k:Nat) (wr:World):Prop:=
 ∃ S,rightB Ls = (filesB j S (L.drop k) && risesB j L && rightL (j + 1) (seenOf S (L.drop k)) (Ls.drop (j + 1))) ∧ Seen wr m S ∧ S.length ≤ j * 1000000 + k ∧ Below w.heap.size w wr ∧ w.heap.size ≤ m
structure LevelIn (w:World) (A:Option Addr) (L:List FileV):Prop where
 at_:FilesAt w A L
 short:L.length ≤ 1000000
 wf:∀ f ∈ L,(Lit.int .u64 f.num).wf = true
theorem after_check {w wr w1:World} {m:Nat} {S:List Int} {f0:Int} {c5 c6:Array Value} {t5 t6:TypeId} (h5:c5[0]? = some (.int .u64 f0)) (hs:Seen wr m S) (hb:Below w.heap.size w wr) (hm:w.heap.size ≤ m) (hw:(Lit.int .u64 f0).wf = true) (hl:S.length < 1000000000)
  (hb1:Below ((wr.alloc (.cells c5 t5)).alloc (.cells c6 t6)).heap.size ((wr.alloc (.cells c5 t5)).alloc (.cells c6 t6)) w1) :
  w1.cell? ⟨wr.heap.size,0,none⟩ = some (.int .u64 f0) ∧ Below w.heap.size w w1 ∧ ∃ w2,(Instr.mapUpdate 103 (.map (some m)) (.int .u64 f0) (.bool true)).run Tryd.prog w1 = .ok () w2 ∧ Seen w2 m (f0 :: S) ∧ Below w.heap.size w w2:=by
 have z1:(wr.alloc (.cells c5 t5)).heap.size = wr.heap.size + 1:=by show (Array.push _ _).size = _;rw [Array.size_push]
 have z2:((wr.alloc (.cells c5 t5)).alloc (.cells c6 t6)).heap.size = wr.heap.size + 2:=by show (Array.push _ _).size = _;rw [Array.size_push,z1]
 have b2:Below w.heap.size w ((wr.alloc (.cells c5 t5)).alloc (.cells c6 t6)):=(hb.alloc hb.size _).alloc (by rw [z1];have:=hb.size;omega) _
 have bw:Below w.heap.size w w1:=b2.trans (hb1.mono (by rw [z2];have:=hb.size;omega))
 have bwr:Below wr.heap.size wr w1:=(((Below.refl _ _).alloc (Nat.le_refl _) _).alloc (by rw [z1];omega) _).trans (hb1.mono (by rw [z2];omega))
 refine ⟨?_,bw,?_⟩
 ·have e0:(wr.alloc (.cells c5 t5)).cell? ⟨wr.heap.size,0,none⟩ = some (.int .u64 f0):=by
   have e:=World.alloc_heap_new wr (.cells c5 t5)
   simp only [World.cell?,e]
   exact h5
  have e1:((wr.alloc (.cells c5 t5)).alloc (.cells c6 t6)).cell? ⟨wr.heap.size,0,none⟩ = some (.int .u64 f0):=(((Below.refl (wr.alloc (.cells c5 t5)).heap.size _).alloc (Nat.le_refl _) (.cells c6 t6)).cell (World.block_lt_of_cell? _ _ e0)).trans e0
  exact (hb1.cell (World.block_lt_of_cell? _ _ e1)).trans e1
 ·obtain ⟨w2,hrun,hs2,hg⟩:=(hs.below bwr).store f0 hw hl
  exact ⟨w2,hrun,hs2,bw.grown hg bw.size (fun k hk=>by cases hk;exact hm)⟩
set_option maxHeartbeats 8000000 in
set_option maxRecDepth 100000 in
theorem right_on (A0 A1 A2 A3:Option Addr) (L0 L1 L2 L3:List FileV) (c0 c1 c2 c3:Nat) (w:World) (h0:LevelIn w A0 L0) (h1:LevelIn w A1 L1) (h2:LevelIn w A2 L2) (h3:LevelIn w A3 L3) :
  Calls Tryd.prog 44 #[.agg #[.slice A0 L0.length c0,.slice A1 L1.length c1,.slice A2 L2.length c2,.slice A3 L3.length c3]] w fun e w'=>e = .returned (.bool (rightB [L0,L1,L2,L3])) ∧ Below w.heap.size w w':=by
 have H0:=Hush.mk h0
 have H1:=Hush.mk h1
 have H2:=Hush.mk h2
 have H3:=Hush.mk h3
 clear h0 h1 h2 h3
 have hmm:=@run_makeMap Tryd.prog
 obtain ⟨Ls,hLs⟩:∃ Ls,Ls = [L0,L1,L2,L3]:=⟨_,rfl⟩
 have HLs:=Hush.mk hLs
 rw [← hLs]
 clear hLs
 go_enter Tryd.func44,Tryd.ntmps44
 go_wp2
 go_loopw [11] (fun iv wr=>∃ j:Nat,iv = .int .i64 j ∧ j ≤ 4 ∧ Hush (rightJ w (w.heap.size + 1) Ls j wr)) (fun iv _=>4 - (intOf iv).toNat)
 case atStart=>exact ⟨0,by go_num,by omega,⟨[],rfl,by
  have e:(w.alloc (.cells #[.slice A0 L0.length c0,.slice A1 L1.length c1,.slice A2 L2.length c2,.slice A3 L3.length c3] 79)).heap.size = w.heap.size + 1:=by show (Array.push _ _).size = _;rw [Array.size_push]
  rw [← e]
  exact Seen.made _,by simp,((Below.refl _ _).alloc (Nat.le_refl _) _).alloc (by show _ ≤ (Array.push _ _).size;rw [Array.size_push];omega) _,by omega⟩⟩
 case round=>
  obtain ⟨j,rfl,hj4,HJ⟩:=hrel
  by_cases hlt:j < 4
  ·obtain ⟨L,A,c,hL,HL,hcase⟩:∃ (L:List FileV) (A:Option Addr) (c:Nat),Ls[j]? = some L ∧ Hush (LevelIn w A L) ∧ ((j = 0 ∧ L0 = L ∧ A0 = A ∧ c0 = c) ∨ (j = 1 ∧ L1 = L ∧ A1 = A ∧ c1 = c) ∨ (j = 2 ∧ L2 = L ∧ A2 = A ∧ c2 = c) ∨ (j = 3 ∧ L3 = L ∧ A3 = A ∧ c3 = c)):=by
    rw [HLs.out]
    have:j = 0 ∨ j = 1 ∨ j = 2 ∨ j = 3:=by omega
    rcases this with rfl | rfl | rfl | rfl
    ·exact ⟨_,_,_,rfl,H0,.inl ⟨rfl,rfl,rfl,rfl⟩⟩
    ·exact ⟨_,_,_,rfl,H1,.inr (.inl ⟨rfl,rfl,rfl,rfl⟩)⟩
    ·exact ⟨_,_,_,rfl,H2,.inr (.inr (.inl ⟨rfl,rfl,rfl,rfl⟩))⟩
    ·exact ⟨_,_,_,rfl,H3,.inr (.inr (.inr ⟨rfl,rfl,rfl,rfl⟩))⟩
   have HD:Hush (Ls.drop j = L :: Ls.drop (j + 1)):=⟨by
    obtain ⟨h1,e1⟩:=List.getElem?_eq_some_iff.1 hL
    rw [List.drop_eq_getElem_cons h1,e1]⟩
   have HK0:Hush (rightK w (w.heap.size + 1) Ls j L 0 wr):=⟨by
    obtain ⟨S,g1,g2,g3,g4⟩:=HJ.out
    refine ⟨S,g1.trans ?_,g2,Nat.le_trans g3 (Nat.le_add_right _ _),g4⟩
    rw [HD.out,List.drop_zero,rightL]⟩
   clear HJ hL HLs H0 H1 H2 H3
   obtain ⟨jz,hjz⟩:∃ z:Int,z = (j:Int):=⟨_,rfl⟩
   rw [← hjz]
   rcases hcase with ⟨rfl,rfl,rfl,rfl⟩ | ⟨rfl,rfl,rfl,rfl⟩ | ⟨rfl,rfl,rfl,rfl⟩ | ⟨rfl,rfl,rfl,rfl⟩
   ·obtain rfl:jz = 0:=hjz
    go_wp2
    go_loopw [17] (fun iv wr=>∃ k:Nat,iv = .int .i64 k ∧ k ≤ L0.length ∧ Hush (rightK w (w.heap.size + 1) Ls 0 L0 k wr)) (fun iv _=>L0.length - (intOf iv).toNat)
    case atStart=>exact ⟨0,by go_num,by omega,HK0⟩
    case round=>
     obtain ⟨k,rfl,hk,HK⟩:=hrel
     by_cases hlt2:k < L0.length
     ·have hlt2z:(k:Int) < (L0.length:Int):=by omega
      obtain ⟨f,hf⟩:∃ f,L0[k]? = some f:=⟨_,List.getElem?_eq_getElem hlt2⟩
      obtain ⟨ad,rfl,hat⟩:=HL.out.at_ (by omega)
      obtain ⟨S,g1,g2,g3,g4,g5⟩:=HK.out
      have hA:=(hat k f hf).below g4
      have hwf:=HL.out.wf f (List.mem_of_getElem? hf)
      have hshort:=HL.out.short
      have G1:=Hush.mk g1
      have G2:=Hush.mk g2
      have G3:Hush (S.length + 1 ≤ 0 * 1000000 + (k + 1) ∧ S.length < 1000000000):=⟨by omega,by omega⟩
      have G4:=Hush.mk g4
      have G5:=Hush.mk g5
      have HW:=Hush.mk hwf
      obtain ⟨b,hb⟩:∃ b,b = S.contains f.num:=⟨_,rfl⟩
      obtain ⟨r,hr⟩:∃ r,r = edit_wrong.val 0 f.num f.least f.most:=⟨_,rfl⟩
      have HN:Hush (rightB Ls = ((!b && decide (r = 0)) && filesB 0 (f.num :: S) (L0.drop (k + 1)) && risesB 0 L0 && rightL (0 + 1) (seenOf (f.num :: S) (L0.drop (k + 1))) (Ls.drop (0 + 1)))):=⟨by
       rw [g1,hb,hr,filesB_step _ _ _ _ _ hf,seenOf_step _ _ _ _ hf]
       rfl⟩
      have hlk:∀ o:Obj,(Instr.lookup 103 (.map (some (w.heap.size + 1))) (.int .u64 f.num) false).run Tryd.prog (wr.alloc o) = .ok (.bool b) (wr.alloc o):=fun o=>by rw [hb];exact (g2.alloc o).look f.num hwf
      have HR:=Hush.mk hr
      have hkz:(k:Int) + 1 ≤ 1000000:=by omega
      clear g1 g2 g3 g4 g5 hat hf HK hwf hb hr hshort
      obtain ⟨f0,f1,f2,f3,f4⟩:=f
      simp only [FileAt] at hA
      simp only at hlk
      obtain ⟨x0,x1,x2,x3,x4⟩:=hA
      cases b
      ·by_cases hr0:r = 0
       ·subst hr0
        go_wp2_with (go_at_call 20;refine (check_new _ _ _ _ _ _ _ _ _ (by simp) _ HR.out).mono ?_;rintro e w1 ⟨rfl,hb1⟩;obtain ⟨hq,hbw,w2,hst,hs2,hb2⟩:=after_check rfl G2.out G4.out G5.out HW.out G3.out.2 hb1;have HS2:=Hush.mk hs2;have HB2:=Hush.mk hb2;clear hs2 hb2 hb1 hbw)
        go_roundw
        case rel=>exact ⟨k + 1,by go_num,by omega,⟨f0 :: S,by rw [HN.out];simp,HS2.out,G3.out.1,HB2.out,G5.out⟩⟩
        case measure=>simp [intOf];omega
       ·have hr1:(r == 0) = false:=by simpa using hr0
        have hr2:(r != 0) = true:=by simpa using hr0
        have HR0:=Hush.mk hr0
        clear hr0
        go_wp2_with (go_at_call 20;refine (check_new _ _ _ _ _ _ _ _ _ (by simp) _ HR.out).mono ?_;rintro e w1 ⟨rfl,hb1⟩;obtain ⟨hq,hbw,-⟩:=after_check rfl G2.out G4.out G5.out HW.out G3.out.2 hb1;have HBW:=Hush.mk hbw;clear hb1 hbw)
        go_ret
        exact ⟨congrArg (fun b=>Ending.returned (Value.bool b)) (by rw [HN.out,decide_eq_false HR0.out];rfl),HBW.out⟩
      ·go_wp2
       go_ret
       exact ⟨by rw [HN.out];rfl,G4.out.alloc G4.out.size _⟩
     ·obtain rfl:k = L0.length:=by omega
      have HRI:Hush (Calls Tryd.prog 97 #[.int .i64 0,.slice A0 L0.length c0] wr fun e w'=>e = .returned (.bool (risesB 0 L0)) ∧ Grown wr w'):=⟨by
       obtain ⟨S,g1,g2,g3,g4,g5⟩:=HK.out
       exact rises_on 0 A0 L0 c0 wr (HL.out.at_.below g4) HL.out.short⟩
      obtain ⟨rb,hrb⟩:∃ rb,rb = risesB 0 L0:=⟨_,rfl⟩
      rw [← hrb] at HRI
      have HRB:=Hush.mk hrb
      clear hrb
      have HN:Hush (∀ w',Grown wr w' → (rb = true → rightJ w (w.heap.size + 1) Ls 1 w') ∧ (rb = false → rightB Ls = false) ∧ Below w.heap.size w w'):=⟨fun w' hg=>by
       obtain ⟨S,g1,g2,g3,g4,g5⟩:=HK.out
       rw [List.drop_of_length_le (Nat.le_refl _)] at g1
       have hb:=g4.trans (hg.below.mono g4.size)
       have hsh:=HL.out.short
       refine ⟨fun ht=>⟨S,?_,g2.below hg.below,by omega,hb,g5⟩,fun hf=>?_,hb⟩
       ·rw [g1,show risesB ((0:Nat):Int) L0 = true from HRB.out.symm.trans ht]
        rfl
       ·rw [g1,show risesB ((0:Nat):Int) L0 = false from HRB.out.symm.trans hf]
        rfl⟩
      clear HK
      cases rb
      ·go_wp2_with (go_at_call 97;refine HRI.out.mono ?_;rintro e w1 ⟨rfl,hg1⟩;have HN1:=Hush.mk (HN.out _ hg1);clear hg1)
       go_ret
       exact ⟨congrArg (fun b=>Ending.returned (Value.bool b)) (HN1.out.2.1 (by first | rfl | trivial)).symm,HN1.out.2.2⟩
      ·go_wp2_with (go_at_call 97;refine HRI.out.mono ?_;rintro e w1 ⟨rfl,hg1⟩;have HN1:=Hush.mk (HN.out _ hg1);clear hg1)
       go_roundw
       case rel=>exact ⟨1,by go_num,by omega,⟨HN1.out.1 (by first | rfl | trivial)⟩⟩
       case measure=>simp [intOf]
   ·obtain rfl:jz = 1:=hjz
    go_wp2
    go_loopw [17] (fun iv wr=>∃ k:Nat,iv = .int .i64 k ∧ k ≤ L1.length ∧ Hush (rightK w (w.heap.size + 1) Ls 1 L1 k wr)) (fun iv _=>L1.length - (intOf iv).toNat)
    case atStart=>exact ⟨0,by go_num,by omega,HK0⟩
    case round=>
     obtain ⟨k,rfl,hk,HK⟩:=hrel
     by_cases hlt2:k < L1.length
     ·have hlt2z:(k:Int) < (L1.length:Int):=by omega
      obtain ⟨f,hf⟩:∃ f,L1[k]? = some f:=⟨_,List.getElem?_eq_getElem hlt2⟩
      obtain ⟨ad,rfl,hat⟩:=HL.out.at_ (by omega)
      obtain ⟨S,g1,g2,g3,g4,g5⟩:=HK.out
      have hA:=(hat k f hf).below g4
      have hwf:=HL.out.wf f (List.mem_of_getElem? hf)
      have hshort:=HL.out.short
      have G1:=Hush.mk g1
      have G2:=Hush.mk g2
      have G3:Hush (S.length + 1 ≤ 1 * 1000000 + (k + 1) ∧ S.length < 1000000000):=⟨by omega,by omega⟩
      have G4:=Hush.mk g4
      have G5:=Hush.mk g5
      have HW:=Hush.mk hwf
      obtain ⟨b,hb⟩:∃ b,b = S.contains f.num:=⟨_,rfl⟩
      obtain ⟨r,hr⟩:∃ r,r = edit_wrong.val 1 f.num f.least f.most:=⟨_,rfl⟩
      have HN:Hush (rightB Ls = ((!b && decide (r = 0)) && filesB 1 (f.num :: S) (L1.drop (k + 1)) && risesB 1 L1 && rightL (1 + 1) (seenOf (f.num :: S) (L1.drop (k + 1))) (Ls.drop (1 + 1)))):=⟨by
       rw [g1,hb,hr,filesB_step _ _ _ _ _ hf,seenOf_step _ _ _ _ hf]
       rfl⟩
      have hlk:∀ o:Obj,(Instr.lookup 103 (.map (some (w.heap.size + 1))) (.int .u64 f.num) false).run Tryd.prog (wr.alloc o) = .ok (.bool b) (wr.alloc o):=fun o=>by rw [hb];exact (g2.alloc o).look f.num hwf
      have HR:=Hush.mk hr
      have hkz:(k:Int) + 1 ≤ 1000000:=by omega
      clear g1 g2 g3 g4 g5 hat hf HK hwf hb hr hshort
      obtain ⟨f0,f1,f2,f3,f4⟩:=f
      simp only [FileAt] at hA
      simp only at hlk
      obtain ⟨x0,x1,x2,x3,x4⟩:=hA
      cases b
      ·by_cases hr0:r = 0
       ·subst hr0
        go_wp2_with (go_at_call 20;refine (check_new _ _ _ _ _ _ _ _ _ (by simp) _ HR.out).mono ?_;rintro e w1 ⟨rfl,hb1⟩;obtain ⟨hq,hbw,w2,hst,hs2,hb2⟩:=after_check rfl G2.out G4.out G5.out HW.out G3.out.2 hb1;have HS2:=Hush.mk hs2;have HB2:=Hush.mk hb2;clear hs2 hb2 hb1 hbw)
        go_roundw
        case rel=>exact ⟨k + 1,by go_num,by omega,⟨f0 :: S,by rw [HN.out];simp,HS2.out,G3.out.1,HB2.out,G5.out⟩⟩
        case measure=>simp [intOf];omega
       ·have hr1:(r == 0) = false:=by simpa using hr0
        have hr2:(r != 0) = true:=by simpa using hr0
        have HR0:=Hush.mk hr0
        clear hr0
        go_wp2_with (go_at_call 20;refine (check_new _ _ _ _ _ _ _ _ _ (by simp) _ HR.out).mono ?_;rintro e w1 ⟨rfl,hb1⟩;obtain ⟨hq,hbw,-⟩:=after_check rfl G2.out G4.out G5.out HW.out G3.out.2 hb1;have HBW:=Hush.mk hbw;clear hb1 hbw)
        go_ret
        exact ⟨congrArg (fun b=>Ending.returned (Value.bool b)) (by rw [HN.out,decide_eq_false HR0.out];rfl),HBW.out⟩
      ·go_wp2
       go_ret
       exact ⟨by rw [HN.out];rfl,G4.out.alloc G4.out.size _⟩
     ·obtain rfl:k = L1.length:=by omega
      have HRI:Hush (Calls Tryd.prog 97 #[.int .i64 1,.slice A1 L1.length c1] wr fun e w'=>e = .returned (.bool (risesB 1 L1)) ∧ Grown wr w'):=⟨by
       obtain ⟨S,g1,g2,g3,g4,g5⟩:=HK.out
       exact rises_on 1 A1 L1 c1 wr (HL.out.at_.below g4) HL.out.short⟩
      obtain ⟨rb,hrb⟩:∃ rb,rb = risesB 1 L1:=⟨_,rfl⟩
      rw [← hrb] at HRI
      have HRB:=Hush.mk hrb
      clear hrb
      have HN:Hush (∀ w',Grown wr w' → (rb = true → rightJ w (w.heap.size + 1) Ls 2 w') ∧ (rb = false → rightB Ls = false) ∧ Below w.heap.size w w'):=⟨fun w' hg=>by
       obtain ⟨S,g1,g2,g3,g4,g5⟩:=HK.out
       rw [List.drop_of_length_le (Nat.le_refl _)] at g1
       have hb:=g4.trans (hg.below.mono g4.size)
       have hsh:=HL.out.short
       refine ⟨fun ht=>⟨S,?_,g2.below hg.below,by omega,hb,g5⟩,fun hf=>?_,hb⟩
       ·rw [g1,show risesB ((1:Nat):Int) L1 = true from HRB.out.symm.trans ht]
        rfl
       ·rw [g1,show risesB ((1:Nat):Int) L1 = false from HRB.out.symm.trans hf]
        rfl⟩
      clear HK
      cases rb
      ·go_wp2_with (go_at_call 97;refine HRI.out.mono ?_;rintro e w1 ⟨rfl,hg1⟩;have HN1:=Hush.mk (HN.out _ hg1);clear hg1)
       go_ret
       exact ⟨congrArg (fun b=>Ending.returned (Value.bool b)) (HN1.out.2.1 (by first | rfl | trivial)).symm,HN1.out.2.2⟩
      ·go_wp2_with (go_at_call 97;refine HRI.out.mono ?_;rintro e w1 ⟨rfl,hg1⟩;have HN1:=Hush.mk (HN.out _ hg1);clear hg1)
       go_roundw
       case rel=>exact ⟨2,by go_num,by omega,⟨HN1.out.1 (by first | rfl | trivial)⟩⟩
       case measure=>simp [intOf]
   ·obtain rfl:jz = 2:=hjz
    go_wp2
    go_loopw [17] (fun iv wr=>∃ k:Nat,iv = .int .i64 k ∧ k ≤ L2.length ∧ Hush (rightK w (w.heap.size + 1) Ls 2 L2 k wr)) (fun iv _=>L2.length - (intOf iv).toNat)
    case atStart=>exact ⟨0,by go_num,by omega,HK0⟩
    case round=>
     obtain ⟨k,rfl,hk,HK⟩:=hrel
     by_cases hlt2:k < L2.length
     ·have hlt2z:(k:Int) < (L2.length:Int):=by omega
      obtain ⟨f,hf⟩:∃ f,L2[k]? = some f:=⟨_,List.getElem?_eq_getElem hlt2⟩
      obtain ⟨ad,rfl,hat⟩:=HL.out.at_ (by omega)
      obtain ⟨S,g1,g2,g3,g4,g5⟩:=HK.out
      have hA:=(hat k f hf).below g4
      have hwf:=HL.out.wf f (List.mem_of_getElem? hf)
      have hshort:=HL.out.short
      have G1:=Hush.mk g1
      have G2:=Hush.mk g2
      have G3:Hush (S.length + 1 ≤ 2 * 1000000 + (k + 1) ∧ S.length < 1000000000):=⟨by omega,by omega⟩
      have G4:=Hush.mk g4
      have G5:=Hush.mk g5
      have HW:=Hush.mk hwf
      obtain ⟨b,hb⟩:∃ b,b = S.contains f.num:=⟨_,rfl⟩
      obtain ⟨r,hr⟩:∃ r,r = edit_wrong.val 2 f.num f.least f.most:=⟨_,rfl⟩
      have HN:Hush (rightB Ls = ((!b && decide (r = 0)) && filesB 2 (f.num :: S) (L2.drop (k + 1)) && risesB 2 L2 && rightL (2 + 1) (seenOf (f.num :: S) (L2.drop (k + 1))) (Ls.drop (2 + 1)))):=⟨by
       rw [g1,hb,hr,filesB_step _ _ _ _ _ hf,seenOf_step _ _ _ _ hf]
       rfl⟩
      have hlk:∀ o:Obj,(Instr.lookup 103 (.map (some (w.heap.size + 1))) (.int .u64 f.num) false).run Tryd.prog (wr.alloc o) = .ok (.bool b) (wr.alloc o):=fun o=>by rw [hb];exact (g2.alloc o).look f.num hwf
      have HR:=Hush.mk hr
      have hkz:(k:Int) + 1 ≤ 1000000:=by omega
      clear g1 g2 g3 g4 g5 hat hf HK hwf hb hr hshort
      obtain ⟨f0,f1,f2,f3,f4⟩:=f
      simp only [FileAt] at hA
      simp only at hlk
      obtain ⟨x0,x1,x2,x3,x4⟩:=hA
      cases b
      ·by_cases hr0:r = 0
       ·subst hr0
        go_wp2_with (go_at_call 20;refine (check_new _ _ _ _ _ _ _ _ _ (by simp) _ HR.out).mono ?_;rintro e w1 ⟨rfl,hb1⟩;obtain ⟨hq,hbw,w2,hst,hs2,hb2⟩:=after_check rfl G2.out G4.out G5.out HW.out G3.out.2 hb1;have HS2:=Hush.mk hs2;have HB2:=Hush.mk hb2;clear hs2 hb2 hb1 hbw)
        go_roundw
        case rel=>exact ⟨k + 1,by go_num,by omega,⟨f0 :: S,by rw [HN.out];simp,HS2.out,G3.out.1,HB2.out,G5.out⟩⟩
        case measure=>simp [intOf];omega
       ·have hr1:(r == 0) = false:=by simpa using hr0
        have hr2:(r != 0) = true:=by simpa using hr0
        have HR0:=Hush.mk hr0
        clear hr0
        go_wp2_with (go_at_call 20;refine (check_new _ _ _ _ _ _ _ _ _ (by simp) _ HR.out).mono ?_;rintro e w1 ⟨rfl,hb1⟩;obtain ⟨hq,hbw,-⟩:=after_check rfl G2.out G4.out G5.out HW.out G3.out.2 hb1;have HBW:=Hush.mk hbw;clear hb1 hbw)
        go_ret
        exact ⟨congrArg (fun b=>Ending.returned (Value.bool b)) (by rw [HN.out,decide_eq_false HR0.out];rfl),HBW.out⟩
      ·go_wp2
       go_ret
       exact ⟨by rw [HN.out];rfl,G4.out.alloc G4.out.size _⟩
     ·obtain rfl:k = L2.length:=by omega
      have HRI:Hush (Calls Tryd.prog 97 #[.int .i64 2,.slice A2 L2.length c2] wr fun e w'=>e = .returned (.bool (risesB 2 L2)) ∧ Grown wr w'):=⟨by
       obtain ⟨S,g1,g2,g3,g4,g5⟩:=HK.out
       exact rises_on 2 A2 L2 c2 wr (HL.out.at_.below g4) HL.out.short⟩
      obtain ⟨rb,hrb⟩:∃ rb,rb = risesB 2 L2:=⟨_,rfl⟩
      rw [← hrb] at HRI
      have HRB:=Hush.mk hrb
      clear hrb
      have HN:Hush (∀ w',Grown wr w' → (rb = true → rightJ w (w.heap.size + 1) Ls 3 w') ∧ (rb = false → rightB Ls = false) ∧ Below w.heap.size w w'):=⟨fun w' hg=>by
       obtain ⟨S,g1,g2,g3,g4,g5⟩:=HK.out
       rw [List.drop_of_length_le (Nat.le_refl _)] at g1
       have hb:=g4.trans (hg.below.mono g4.size)
       have hsh:=HL.out.short
       refine ⟨fun ht=>⟨S,?_,g2.below hg.below,by omega,hb,g5⟩,fun hf=>?_,hb⟩
       ·rw [g1,show risesB ((2:Nat):Int) L2 = true from HRB.out.symm.trans ht]
        rfl
       ·rw [g1,show risesB ((2:Nat):Int) L2 = false from HRB.out.symm.trans hf]
        rfl⟩
      clear HK
      cases rb
      ·go_wp2_with (go_at_call 97;refine HRI.out.mono ?_;rintro e w1 ⟨rfl,hg1⟩;have HN1:=Hush.mk (HN.out _ hg1);clear hg1)
       go_ret
       exact ⟨congrArg (fun b=>Ending.returned (Value.bool b)) (HN1.out.2.1 (by first | rfl | trivial)).symm,HN1.out.2.2⟩
      ·go_wp2_with (go_at_call 97;refine HRI.out.mono ?_;rintro e w1 ⟨rfl,hg1⟩;have HN1:=Hush.mk (HN.out _ hg1);clear hg1)
       go_roundw
       case rel=>exact ⟨3,by go_num,by omega,⟨HN1.out.1 (by first | rfl | trivial)⟩⟩
       case measure=>simp [intOf]
   ·obtain rfl:jz = 3:=hjz
    go_wp2
    go_loopw [17] (fun iv wr=>∃ k:Nat,iv = .int .i64 k ∧ k ≤ L3.length ∧ Hush (rightK w (w.heap.size + 1) Ls 3 L3 k wr)) (fun iv _=>L3.length - (intOf iv).toNat)
    case atStart=>exact ⟨0,by go_num,by omega,HK0⟩
    case round=>
     obtain ⟨k,rfl,hk,HK⟩:=hrel
     by_cases hlt2:k < L3.length
     ·have hlt2z:(k:Int) < (L3.length:Int):=by omega
      obtain ⟨f,hf⟩:∃ f,L3[k]? = some f:=⟨_,List.getElem?_eq_getElem hlt2⟩
      obtain ⟨ad,rfl,hat⟩:=HL.out.at_ (by omega)
      obtain ⟨S,g1,g2,g3,g4,g5⟩:=HK.out
      have hA:=(hat k f hf).below g4
      have hwf:=HL.out.wf f (List.mem_of_getElem? hf)
      have hshort:=HL.out.short
      have G1:=Hush.mk g1
      have G2:=Hush.mk g2
      have G3:Hush (S.length + 1 ≤ 3 * 1000000 + (k + 1) ∧ S.length < 1000000000):=⟨by omega,by omega⟩
      have G4:=Hush.mk g4
      have G5:=Hush.mk g5
      have HW:=Hush.mk hwf
      obtain ⟨b,hb⟩:∃ b,b = S.contains f.num:=⟨_,rfl⟩
      obtain ⟨r,hr⟩:∃ r,r = edit_wrong.val 3 f.num f.least f.most:=⟨_,rfl⟩
      have HN:Hush (rightB Ls = ((!b && decide (r = 0)) && filesB 3 (f.num :: S) (L3.drop (k + 1)) && risesB 3 L3 && rightL (3 + 1) (seenOf (f.num :: S) (L3.drop (k + 1))) (Ls.drop (3 + 1)))):=⟨by
       rw [g1,hb,hr,filesB_step _ _ _ _ _ hf,seenOf_step _ _ _ _ hf]
       rfl⟩
      have hlk:∀ o:Obj,(Instr.lookup 103 (.map (some (w.heap.size + 1))) (.int .u64 f.num) false).run Tryd.prog (wr.alloc o) = .ok (.bool b) (wr.alloc o):=fun o=>by rw [hb];exact (g2.alloc o).look f.num hwf
      have HR:=Hush.mk hr
      have hkz:(k:Int) + 1 ≤ 1000000:=by omega
      clear g1 g2 g3 g4 g5 hat hf HK hwf hb hr hshort
      obtain ⟨f0,f1,f2,f3,f4⟩:=f
      simp only [FileAt] at hA
      simp only at hlk
      obtain ⟨x0,x1,x2,x3,x4⟩:=hA
      cases b
      ·by_cases hr0:r = 0
       ·subst hr0
        go_wp2_with (go_at_call 20;refine (check_new _ _ _ _ _ _ _ _ _ (by simp) _ HR.out).mono ?_;rintro e w1 ⟨rfl,hb1⟩;obtain ⟨hq,hbw,w2,hst,hs2,hb2⟩:=after_check rfl G2.out G4.out G5.out HW.out G3.out.2 hb1;have HS2:=Hush.mk hs2;have HB2:=Hush.mk hb2;clear hs2 hb2 hb1 hbw)
        go_roundw
        case rel=>exact ⟨k + 1,by go_num,by omega,⟨f0 :: S,by rw [HN.out];simp,HS2.out,G3.out.1,HB2.out,G5.out⟩⟩
        case measure=>simp [intOf];omega
       ·have hr1:(r == 0) = false:=by simpa using hr0
        have hr2:(r != 0) = true:=by simpa using hr0
        have HR0:=Hush.mk hr0
        clear hr0
        go_wp2_with (go_at_call 20;refine (check_new _ _ _ _ _ _ _ _ _ (by simp) _ HR.out).mono ?_;rintro e w1 ⟨rfl,hb1⟩;obtain ⟨hq,hbw,-⟩:=after_check rfl G2.out G4.out G5.out HW.out G3.out.2 hb1;have HBW:=Hush.mk hbw;clear hb1 hbw)
        go_ret
        exact ⟨congrArg (fun b=>Ending.returned (Value.bool b)) (by rw [HN.out,decide_eq_false HR0.out];rfl),HBW.out⟩
      ·go_wp2
       go_ret
       exact ⟨by rw [HN.out];rfl,G4.out.alloc G4.out.size _⟩
     ·obtain rfl:k = L3.length:=by omega
      have HRI:Hush (Calls Tryd.prog 97 #[.int .i64 3,.slice A3 L3.length c3] wr fun e w'=>e = .returned (.bool (risesB 3 L3)) ∧ Grown wr w'):=⟨by
       obtain ⟨S,g1,g2,g3,g4,g5⟩:=HK.out
       exact rises_on 3 A3 L3 c3 wr (HL.out.at_.below g4) HL.out.short⟩
      obtain ⟨rb,hrb⟩:∃ rb,rb = risesB 3 L3:=⟨_,rfl⟩
      rw [← hrb] at HRI
      have HRB:=Hush.mk hrb
      clear hrb
      have HN:Hush (∀ w',Grown wr w' → (rb = true → rightJ w (w.heap.size + 1) Ls 4 w') ∧ (rb = false → rightB Ls = false) ∧ Below w.heap.size w w'):=⟨fun w' hg=>by
       obtain ⟨S,g1,g2,g3,g4,g5⟩:=HK.out
       rw [List.drop_of_length_le (Nat.le_refl _)] at g1
       have hb:=g4.trans (hg.below.mono g4.size)
       have hsh:=HL.out.short
       refine ⟨fun ht=>⟨S,?_,g2.below hg.below,by omega,hb,g5⟩,fun hf=>?_,hb⟩
       ·rw [g1,show risesB ((3:Nat):Int) L3 = true from HRB.out.symm.trans ht]
        rfl
       ·rw [g1,show risesB ((3:Nat):Int) L3 = false from HRB.out.symm.trans hf]
        rfl⟩
      clear HK
      cases rb
      ·go_wp2_with (go_at_call 97;refine HRI.out.mono ?_;rintro e w1 ⟨rfl,hg1⟩;have HN1:=Hush.mk (HN.out _ hg1);clear hg1)
       go_ret
       exact ⟨congrArg (fun b=>Ending.returned (Value.bool b)) (HN1.out.2.1 (by first | rfl | trivial)).symm,HN1.out.2.2⟩
      ·go_wp2_with (go_at_call 97;refine HRI.out.mono ?_;rintro e w1 ⟨rfl,hg1⟩;have HN1:=Hush.mk (HN.out _ hg1);clear hg1)
       go_roundw
       case rel=>exact ⟨4,by go_num,by omega,⟨HN1.out.1 (by first | rfl | trivial)⟩⟩
       case measure=>simp [intOf]
  ·obtain rfl:j = 4:=by omega
   have HE:Hush (rightB Ls = true ∧ Below w.heap.size w wr):=⟨by
    obtain ⟨S,g1,g2,g3,g4,g5⟩:=HJ.out
    rw [HLs.out] at g1 ⊢
    exact ⟨g1,g4⟩⟩
   clear HJ
   go_wp2
   go_ret
   exact ⟨congrArg (fun b=>Ending.returned (Value.bool b)) HE.out.1.symm,HE.out.2⟩
end Go.Proofs.YteilnbnnhocciaaDoor.V

/-! KV49 -/
namespace Go.Proofs.YteilnbnnhocciaaDoor.KV
open Go.RowKit Go.Proofs.YteilnbnnhocciaaDoorW.PrintWords Go.Proofs.YteilnbnnhocciaaDoorW.PrintLast Go.Proofs.YteilnbnnhocciaaDoorW.PrintMore Go.Proofs.YteilnbnnhocciaaDoorM
attribute [local go_sem] max2_int min2_int max_two min_two max_three min_three max_four min_four
attribute [local go_sem] gtr_run leq_run geq_run
mutual
def bourseref12_Edit_Check.j0:Nat → Bool → Int → Int → Int → List (S114) → List (S115) → Option (Int)
 | 0,_,_,_,_,_,_=>none
 | k + 1,x18,x190000,x190001,x190002,x190003,x190004=>if x18 = true then (some 6) else (bourseref12_Edit_Check.l0 k x190003 (x190003.length:Int) 0 x190000 x190001 x190002 x190003 x190004)
def bourseref12_Edit_Check.l0:Nat → List (S114) → Int → Int → Int → Int → Int → List (S114) → List (S115) → Option (Int)
 | 0,_,_,_,_,_,_,_,_=>none
 | k + 1,x20,x21,x22,x190000,x190001,x190002,x190003,x190004=>if x22 < x21 then (if 0 ≤ x22 then (if x22 < (x20.length:Int) then (if ((rd_T114 x20 x22).f0) < 0 then (bourseref12_Edit_Check.j2 k x20 x21 x22 true x190000 x190001 x190002 x190003 x190004 ((rd_T114 x20 x22).f0) ((rd_T114 x20 x22).f1.f0) ((rd_T114 x20 x22).f1.f1) ((rd_T114 x20 x22).f1.f2) ((rd_T114 x20 x22).f1.f3) ((rd_T114 x20 x22).f1.f4)) else (bourseref12_Edit_Check.j2 k x20 x21 x22 (decide (((rd_T114 x20 x22).f0) > 3)) x190000 x190001 x190002 x190003 x190004 ((rd_T114 x20 x22).f0) ((rd_T114 x20 x22).f1.f0) ((rd_T114 x20 x22).f1.f1) ((rd_T114 x20 x22).f1.f2) ((rd_T114 x20 x22).f1.f3) ((rd_T114 x20 x22).f1.f4))) else (none)) else (none)) else (bourseref12_Edit_Check.l2 k x190004 (x190004.length:Int) 0)
def bourseref12_Edit_Check.j2:Nat → List (S114) → Int → Int → Bool → Int → Int → Int → List (S114) → List (S115) → Int → Int → Int → Int → ByteArray → ByteArray → Option (Int)
 | 0,_,_,_,_,_,_,_,_,_,_,_,_,_,_,_=>none
 | k + 1,x20,x21,x22,x33,x190000,x190001,x190002,x190003,x190004,x192000,x192001,x192002,x192003,x192004,x192005=>if x33 = true then (some 21) else ((some (([x192004,x192005]:List ByteArray):List ByteArray)).bind fun y192=>(bourseref12_Edit_Check.l1 k x20 x21 x22 y192 (y192.length:Int) 0 x190000 x190001 x190002 x190003 x190004 x192000 x192001 x192002 x192003 x192004 x192005))
def bourseref12_Edit_Check.l1:Nat → List (S114) → Int → Int → List ByteArray → Int → Int → Int → Int → Int → List (S114) → List (S115) → Int → Int → Int → Int → ByteArray → ByteArray → Option (Int)
 | 0,_,_,_,_,_,_,_,_,_,_,_,_,_,_,_,_,_=>none
 | k + 1,x20,x21,x22,x40,x41,x42,x190000,x190001,x190002,x190003,x190004,x192000,x192001,x192002,x192003,x192004,x192005=>if x42 < x41 then (if 0 ≤ x42 then (if x42 < (x40.length:Int) then (if ((rdOf ByteArray.empty x40 x42).size:Int) < 1 then (some 19) else (if ((rdOf ByteArray.empty x40 x42).size:Int) > 200 then (some 19) else (bourseref12_Edit_Check.l1 k x20 x21 x22 x40 x41 (wrap64 (x42 + 1)) x190000 x190001 x190002 x190003 x190004 x192000 x192001 x192002 x192003 x192004 x192005))) else (none)) else (none)) else (if (Op.bytesLess x192005.toList x192004.toList) = true then (some 19) else (if x192001 = 0 then (some 8) else (bourseref12_Edit_Check.l0 k x20 x21 (wrap64 (x22 + 1)) x190000 x190001 x190002 x190003 x190004)))
def bourseref12_Edit_Check.l2:Nat → List (S115) → Int → Int → Option (Int)
 | 0,_,_,_=>none
 | k + 1,x68,x69,x70=>if x70 < x69 then (if 0 ≤ x70 then (if x70 < (x68.length:Int) then (if ((rd_T115 x68 x70).f0) < 0 then (some 21) else (if ((rd_T115 x68 x70).f0) > 3 then (some 21) else (bourseref12_Edit_Check.l2 k x68 x69 (wrap64 (x70 + 1))))) else (none)) else (none)) else (some 0)
end
def bourseref12_Edit_Check.f (k:Nat) (a0_0:Int) (a0_1:Int) (a0_2:Int) (l0_3:List (S114)) (l0_4:List (S115)):Option (Int):=if (l0_3.length:Int) > 200 then (bourseref12_Edit_Check.j0 k true a0_0 a0_1 a0_2 l0_3 l0_4) else (bourseref12_Edit_Check.j0 k (decide ((l0_4.length:Int) > 200)) a0_0 a0_1 a0_2 l0_3 l0_4)
set_option maxHeartbeats 8000000 in
set_option maxRecDepth 100000 in
theorem bourseref12_Edit_Check.calls (k:Nat) (a0_0:Int) (a0_1:Int) (a0_2:Int) (A0_3:Option Addr) (c0_3:Nat) (l0_3:List (S114)) (A0_4:Option Addr) (c0_4:Nat) (l0_4:List (S115)) (r:Int) (w:World) (hr0_3:Kd.C k114 w A0_3 l0_3.length l0_3) (hc0_3:l0_3.length ≤ c0_3) (hr0_4:Kd.C k115 w A0_4 l0_4.length l0_4) (hc0_4:l0_4.length ≤ c0_4) (h:bourseref12_Edit_Check.f k a0_0 a0_1 a0_2 l0_3 l0_4 = some r) :
  Calls Tryd.prog 21 #[.agg #[.int .u64 a0_0,.int .u64 a0_1,.int .u64 a0_2,.slice A0_3 l0_3.length c0_3,.slice A0_4 l0_4.length c0_4]] w fun e w'=>e = .returned (.int .i64 r) ∧ Below w.heap.size w w':=by
 have hu36:=Tryd.underlying36
 have hu114:=Tryd.underlying114
 have hu115:=Tryd.underlying115
 have HR0_3:=Aside0.mk hr0_3
 have HC0_3:=Aside0.mk hc0_3
 clear hr0_3 hc0_3
 have HR0_4:=Aside0.mk hr0_4
 have HC0_4:=Aside0.mk hc0_4
 clear hr0_4 hc0_4
 have HB:=Aside0.mk (Below.refl w.heap.size w)
 have H:(if (l0_3.length:Int) > 200 then (bourseref12_Edit_Check.j0 k true a0_0 a0_1 a0_2 l0_3 l0_4) else (bourseref12_Edit_Check.j0 k (decide ((l0_4.length:Int) > 200)) a0_0 a0_1 a0_2 l0_3 l0_4)) = some r:=h
 clear h
 have HC2:=Aside0.mk H
 clear H
 go_enter Tryd.func21,Tryd.ntmps21
 go_upto_region 1 with (first | ((with_reducible refine gate_dst (N:=1) rfl ?_);(try (refine gate_guard (by rfl) ?_;dsimp only));refine box_event ?hg (N:=1) ?hd (cs:=#[.int .u64 a0_0,.int .u64 a0_1,.int .u64 a0_2,.slice A0_3 l0_3.length c0_3,.slice A0_4 l0_4.length c0_4]) (t:=36) ?hr ?_;(case hd=>rfl);(case hg=>rfl);(case hr=>first | (go_simp;done) | (go_simp;rfl));intro gb189 hg w3 hbox hb;have n0_:=Aside0.mk (below_step (by repeat (first | (with_reducible first | exact HB.out | apply below_alloc | apply pw_below_drewN | apply below_drew1) | exact HB.out)) hb);have n1_:=Aside0.mk (hbox);have n2_:=Aside0.mk ((by rw [hg];exact (below_size (by repeat (first | (with_reducible first | exact HB.out | apply below_alloc | apply pw_below_drewN | apply below_drew1) | exact HB.out))):w.heap.size ≤ gb189));have n3_:=Aside0.mk ((by rw [hg];exact (below_size (by repeat (first | (with_reducible first | exact HB.out | apply below_alloc | apply pw_below_drewN | apply below_drew1) | exact HB.out))):w.heap.size ≤ gb189));clear HB;have HB:=n0_;have BK189:=n1_;have GW189:=n2_;have GE189:=n3_;clear n0_ n1_ n2_ n3_;clear hb hbox hg))
 (try simp only [Act.put,List.setIfInBounds_toArray,List.set_cons_zero,List.set_cons_succ])
 go_cut [18] (fun v18 wc=>∃ (kq:Nat) (x18_1:Bool),v18 = .bool x18_1 ∧ Aside0 (bourseref12_Edit_Check.j0 kq x18_1 a0_0 a0_1 a0_2 l0_3 l0_4 = some r) ∧ Aside0 (kq ≤ k) ∧ Aside0 (wc.heap[gb189]? = some (.cells #[.int .u64 a0_0,.int .u64 a0_1,.int .u64 a0_2,(.slice A0_3 l0_3.length c0_3),(.slice A0_4 l0_4.length c0_4)] 36 (0,0))) ∧ Aside0 (Below w.heap.size w wc))
 case first=>
  have H:=HC2.out
  clear HC2
  by_cases c4:(l0_3.length:Int) > 200
  ·rw [if_pos c4] at H
   have c4b0:decide (200 < (l0_3.length:Int)) = true:=decide_eq_true c4
   have c4b1:decide (200 < l0_3.length) = true:=decide_eq_true (by omega)
   clear c4
   (first | rw [c4b0] | (simp only [i64_w,i32_w];rw [c4b0]) | skip)
   have H':=Aside0.mk H
   clear H
   have hcz5_0:w3.cell? ⟨gb189,0,none⟩ = some (.int .u64 a0_0):=(blk_cell BK189.out 0).trans rfl
   have hcz5_1:w3.cell? ⟨gb189,1,none⟩ = some (.int .u64 a0_1):=(blk_cell BK189.out 1).trans rfl
   have hcz5_2:w3.cell? ⟨gb189,2,none⟩ = some (.int .u64 a0_2):=(blk_cell BK189.out 2).trans rfl
   have hcz5_3:w3.cell? ⟨gb189,3,none⟩ = some (.slice A0_3 l0_3.length c0_3):=(blk_cell BK189.out 3).trans rfl
   have hcz5_4:w3.cell? ⟨gb189,4,none⟩ = some (.slice A0_4 l0_4.length c0_4):=(blk_cell BK189.out 4).trans rfl
   have hfz5_0:=blk_frozen BK189.out 0
   have hfz5_1:=blk_frozen BK189.out 1
   have hfz5_2:=blk_frozen BK189.out 2
   have hfz5_3:=blk_frozen BK189.out 3
   have hfz5_4:=blk_frozen BK189.out 4
   go_wp2
   go_meet
   case rel=>exact ⟨_,(true),(by first | rfl | (simp;done) | (simp [*];done)),H',⟨by first | omega | exact Nat.le_refl _⟩,⟨by (with_reducible repeat (first | refine blk_drewN ?_ _ | refine blk_drew ?_ | refine blk_alloc ?_ _));exact BK189.out⟩,⟨by repeat (first | (with_reducible first | exact HB.out | apply below_alloc | apply pw_below_drewN | apply below_drew1 | refine below_set ?_ GE189.out) | exact HB.out)⟩⟩
  ·rw [if_neg c4] at H
   have c4b0:decide (200 < (l0_3.length:Int)) = false:=decide_eq_false c4
   have c4b1:decide (200 < l0_3.length) = false:=decide_eq_false (by omega)
   clear c4
   (first | rw [c4b0] | (simp only [i64_w,i32_w];rw [c4b0]) | skip)
   have H':=Aside0.mk H
   clear H
   have hcz6_0:w3.cell? ⟨gb189,0,none⟩ = some (.int .u64 a0_0):=(blk_cell BK189.out 0).trans rfl
   have hcz6_1:w3.cell? ⟨gb189,1,none⟩ = some (.int .u64 a0_1):=(blk_cell BK189.out 1).trans rfl
   have hcz6_2:w3.cell? ⟨gb189,2,none⟩ = some (.int .u64 a0_2):=(blk_cell BK189.out 2).trans rfl
   have hcz6_3:w3.cell? ⟨gb189,3,none⟩ = some (.slice A0_3 l0_3.length c0_3):=(blk_cell BK189.out 3).trans rfl
   have hcz6_4:w3.cell? ⟨gb189,4,none⟩ = some (.slice A0_4 l0_4.length c0_4):=(blk_cell BK189.out 4).trans rfl
   have hfz6_0:=blk_frozen BK189.out 0
   have hfz6_1:=blk_frozen BK189.out 1
   have hfz6_2:=blk_frozen BK189.out 2
   have hfz6_3:=blk_frozen BK189.out 3
   have hfz6_4:=blk_frozen BK189.out 4
   go_wp2
   go_meet
   case rel=>exact ⟨_,(decide ((l0_4.length:Int) > 200)),(by first | rfl | (simp;done) | (simp [*];done)),H',⟨by first | omega | exact Nat.le_refl _⟩,⟨by (with_reducible repeat (first | refine blk_drewN ?_ _ | refine blk_drew ?_ | refine blk_alloc ?_ _));exact BK189.out⟩,⟨by repeat (first | (with_reducible first | exact HB.out | apply below_alloc | apply pw_below_drewN | apply below_drew1 | refine below_set ?_ GE189.out) | exact HB.out)⟩⟩
 case rest=>
  clear HC2
  try clear c2
  try clear p2
  try clear c4
  try clear c4b0
  try clear c4b1
  try clear hcz5_0
  try clear hcz5_1
  try clear hcz5_2
  try clear hcz5_3
  try clear hcz5_4
  try clear hcz6_0
  try clear hcz6_1
  try clear hcz6_2
  try clear hcz6_3
  try clear hcz6_4
  try clear hfz5_0
  try clear hfz5_1
  try clear hfz5_2
  try clear hfz5_3
  try clear hfz5_4
  try clear hfz6_0
  try clear hfz6_1
  try clear hfz6_2
  try clear hfz6_3
  try clear hfz6_4
  obtain ⟨kq,x18_1,rfl,HA,HJ1,BK189,HB⟩:=hcut
  cases kq with
  | zero=>exact absurd HA.out (by simp [bourseref12_Edit_Check.j0])
  | succ kj1=>
   have H:=HA.out
   clear HA
   simp only [bourseref12_Edit_Check.j0] at H
   by_cases c7:x18_1 = true
   ·subst c7
    have H1:(some 6) = some r:=by rw [if_pos rfl] at H;exact H
    clear H
    have H:=H1
    clear H1
    obtain rfl:=Option.some.inj H
    go_wp2
    go_ret
    exact ⟨by first | rfl | (simp [errW_none,errW_some] <;> rfl) | (simp [*,errW_none,errW_some] <;> rfl),by repeat (first | (with_reducible first | exact HB.out | apply below_alloc | apply pw_below_drewN | apply below_drew1 | refine below_set ?_ GE189.out) | exact HB.out)⟩
   ·replace c7:=Bool.eq_false_iff.mpr c7
    subst c7
    have H1:(bourseref12_Edit_Check.l0 kj1 l0_3 (l0_3.length:Int) 0 a0_0 a0_1 a0_2 l0_3 l0_4) = some r:=by rw [if_neg (show ¬ (false = true) by decide)] at H;exact H
    clear H
    have H:=H1
    clear H1
    have H':=Aside0.mk H
    clear H
    have hcz8_0:wc.cell? ⟨gb189,0,none⟩ = some (.int .u64 a0_0):=(blk_cell BK189.out 0).trans rfl
    have hcz8_1:wc.cell? ⟨gb189,1,none⟩ = some (.int .u64 a0_1):=(blk_cell BK189.out 1).trans rfl
    have hcz8_2:wc.cell? ⟨gb189,2,none⟩ = some (.int .u64 a0_2):=(blk_cell BK189.out 2).trans rfl
    have hcz8_3:wc.cell? ⟨gb189,3,none⟩ = some (.slice A0_3 l0_3.length c0_3):=(blk_cell BK189.out 3).trans rfl
    have hcz8_4:wc.cell? ⟨gb189,4,none⟩ = some (.slice A0_4 l0_4.length c0_4):=(blk_cell BK189.out 4).trans rfl
    have hfz8_0:=blk_frozen BK189.out 0
    have hfz8_1:=blk_frozen BK189.out 1
    have hfz8_2:=blk_frozen BK189.out 2
    have hfz8_3:=blk_frozen BK189.out 3
    have hfz8_4:=blk_frozen BK189.out 4
    go_wp2
    go_loopg [22] kj1 (fun kq v22 w'=>∃ (x22_2:Int),v22 = .int .i64 x22_2 ∧ Aside0 (bourseref12_Edit_Check.l0 kq l0_3 (l0_3.length:Int) x22_2 a0_0 a0_1 a0_2 l0_3 l0_4 = some r) ∧ Aside0 (kq ≤ kj1) ∧ Aside0 (w'.heap[gb189]? = some (.cells #[.int .u64 a0_0,.int .u64 a0_1,.int .u64 a0_2,(.slice A0_3 l0_3.length c0_3),(.slice A0_4 l0_4.length c0_4)] 36 (0,0))) ∧ Aside0 (Below w.heap.size w w'))
    case atStart=>exact ⟨(0),(by first | rfl | (simp;done) | (simp [*];done)),H',⟨Nat.le_refl _⟩,⟨by (with_reducible repeat (first | refine blk_drewN ?_ _ | refine blk_drew ?_ | refine blk_alloc ?_ _));exact BK189.out⟩,⟨by repeat (first | (with_reducible first | exact HB.out | apply below_alloc | apply pw_below_drewN | apply below_drew1 | refine below_set ?_ GE189.out) | exact HB.out)⟩⟩
    case round=>
     clear H'
     try clear c2
     try clear p2
     try clear c4
     try clear c4b0
     try clear c4b1
     try clear c7
     try clear hcz5_0
     try clear hcz5_1
     try clear hcz5_2
     try clear hcz5_3
     try clear hcz5_4
     try clear hcz6_0
     try clear hcz6_1
     try clear hcz6_2
     try clear hcz6_3
     try clear hcz6_4
     try clear hcz8_0
     try clear hcz8_1
     try clear hcz8_2
     try clear hcz8_3
     try clear hcz8_4
     try clear hfz5_0
     try clear hfz5_1
     try clear hfz5_2
     try clear hfz5_3
     try clear hfz5_4
     try clear hfz6_0
     try clear hfz6_1
     try clear hfz6_2
     try clear hfz6_3
     try clear hfz6_4
     try clear hfz8_0
     try clear hfz8_1
     try clear hfz8_2
     try clear hfz8_3
     try clear hfz8_4
     try clear p2
     obtain ⟨x22_2,rfl,HA,HK2,BK189,HB⟩:=hrel
     cases gk with
     | zero=>exact absurd HA.out (by simp [bourseref12_Edit_Check.l0])
     | succ k2=>
      have H:=HA.out
      clear HA
      simp only [bourseref12_Edit_Check.l0] at H
      by_cases c9:x22_2 < (l0_3.length:Int)
      ·rw [if_pos c9] at H
       have c9b0:decide (x22_2 < (l0_3.length:Int)) = true:=decide_eq_true c9
       clear c9
       by_cases c10:0 ≤ x22_2
       ·rw [if_pos c10] at H
        have c10b0:decide (0 ≤ x22_2) = true:=decide_eq_true c10
        clear c10
        by_cases c11:x22_2 < (l0_3.length:Int)
        ·rw [if_pos c11] at H
         have c11b0:decide (x22_2 < (l0_3.length:Int)) = true:=decide_eq_true c11
         clear c11
         have HC12:=Aside0.mk H
         clear H
         have p190:0 ≤ (x22_2:Int):=of_decide_eq_true (by first | (with_reducible assumption) | assumption)
         have q190:x22_2 < (l0_3.length:Int):=of_decide_eq_true (by first | (with_reducible assumption) | assumption)
         obtain ⟨ad190,e190,hx190_0,hx190_1,hx190_2,hx190_3,hx190_4,hx190_5⟩:=at_T114 HR0_3.out x22_2 p190 q190
         cases e190
         replace hx190_0:=(HB.out.cell (World.block_lt_of_cell? w _ hx190_0)).trans hx190_0
         replace hx190_1:=(HB.out.cell (World.block_lt_of_cell? w _ hx190_1)).trans hx190_1
         replace hx190_2:=(HB.out.cell (World.block_lt_of_cell? w _ hx190_2)).trans hx190_2
         replace hx190_3:=(HB.out.cell (World.block_lt_of_cell? w _ hx190_3)).trans hx190_3
         replace hx190_4:=(HB.out.cell (World.block_lt_of_cell? w _ hx190_4)).trans hx190_4
         replace hx190_5:=(HB.out.cell (World.block_lt_of_cell? w _ hx190_5)).trans hx190_5
         replace p190:=eq_true p190
         replace q190:=eq_true q190
         go_upto_region 6 with (first | ((with_reducible refine gate_dst (N:=4) rfl ?_);(try (refine gate_guard (by rfl) ?_;dsimp only));refine box_event ?hg (N:=4) ?hd (cs:=#[.int .i64 0,.int .u64 0,.int .u64 0,.int .u64 0,.string (⟨#[]⟩:ByteArray),.string (⟨#[]⟩:ByteArray)]) (t:=114) ?hr ?_;(case hd=>rfl);(case hg=>rfl);(case hr=>first | (go_simp;done) | (go_simp;rfl));intro gb191 hg w13 hbox hb;have n0_:=Aside0.mk (blk_below (g:=gb189) (o:=.cells #[.int .u64 a0_0,.int .u64 a0_1,.int .u64 a0_2,.slice (some ad190) l0_3.length c0_3,.slice A0_4 l0_4.length c0_4] 36 (0,0)) (by (with_reducible repeat (first | refine blk_drewN ?_ _ | refine blk_drew ?_ | refine blk_alloc ?_ _));exact BK189.out) hb);have n1_:=Aside0.mk (below_step (by repeat (first | (with_reducible first | exact HB.out | apply below_alloc | apply pw_below_drewN | apply below_drew1 | refine below_set ?_ GE189.out) | exact HB.out)) hb);have n2_:=Aside0.mk (hbox);have n3_:=Aside0.mk ((by rw [hg];exact (below_size (by repeat (first | (with_reducible first | exact HB.out | apply below_alloc | apply pw_below_drewN | apply below_drew1 | refine below_set ?_ GE189.out) | exact HB.out))):w.heap.size ≤ gb191));have n4_:=Aside0.mk ((by rw [hg];exact (below_size (by repeat (first | (with_reducible first | exact HB.out | apply below_alloc | apply pw_below_drewN | apply below_drew1 | refine below_set ?_ GE189.out) | exact HB.out))):w.heap.size ≤ gb191));have n5_:=Aside0.mk ((by rw [hg];exact Nat.ne_of_lt (blk_lt (g:=gb189) (o:=.cells #[.int .u64 a0_0,.int .u64 a0_1,.int .u64 a0_2,.slice (some ad190) l0_3.length c0_3,.slice A0_4 l0_4.length c0_4] 36 (0,0)) (by (with_reducible repeat (first | refine blk_drewN ?_ _ | refine blk_drew ?_ | refine blk_alloc ?_ _));exact BK189.out)):gb189 ≠ gb191));have n6_:=Aside0.mk ((by rw [hg];exact Nat.ne_of_gt (blk_lt (g:=gb189) (o:=.cells #[.int .u64 a0_0,.int .u64 a0_1,.int .u64 a0_2,.slice (some ad190) l0_3.length c0_3,.slice A0_4 l0_4.length c0_4] 36 (0,0)) (by (with_reducible repeat (first | refine blk_drewN ?_ _ | refine blk_drew ?_ | refine blk_alloc ?_ _));exact BK189.out)):gb191 ≠ gb189));clear BK189;clear HB;have BK189:=n0_;have HB:=n1_;have BK191:=n2_;have GW191:=n3_;have GE191:=n4_;have NB189_191:=n5_;have NB191_189:=n6_;clear n0_ n1_ n2_ n3_ n4_ n5_ n6_;clear hb hbox hg;have hnb14:=NB191_189.out;have hnc14:=NB189_191.out;have hcz15_0:w13.cell? ⟨gb191,0,none⟩ = some (.int .i64 0):=(blk_cell BK191.out 0).trans rfl;have hcz15_1:w13.cell? ⟨gb191,1,none⟩ = some (.int .u64 0):=(blk_cell BK191.out 1).trans rfl;have hcz15_2:w13.cell? ⟨gb191,2,none⟩ = some (.int .u64 0):=(blk_cell BK191.out 2).trans rfl;have hcz15_3:w13.cell? ⟨gb191,3,none⟩ = some (.int .u64 0):=(blk_cell BK191.out 3).trans rfl;have hcz15_4:w13.cell? ⟨gb191,4,none⟩ = some (.string (⟨#[]⟩:ByteArray)):=(blk_cell BK191.out 4).trans rfl;have hcz15_5:w13.cell? ⟨gb191,5,none⟩ = some (.string (⟨#[]⟩:ByteArray)):=(blk_cell BK191.out 5).trans rfl;have hfz15_0:=blk_frozen BK191.out 0;have hfz15_1:=blk_frozen BK191.out 1;have hfz15_2:=blk_frozen BK191.out 2;have hfz15_3:=blk_frozen BK191.out 3;have hfz15_4:=blk_frozen BK191.out 4;have hfz15_5:=blk_frozen BK191.out 5))
         (try simp only [Act.put,List.setIfInBounds_toArray,List.set_cons_zero,List.set_cons_succ])
         go_cut [33] (fun v33 wc=>∃ (kq:Nat) (x33_11:Bool),v33 = .bool x33_11 ∧ Aside0 (bourseref12_Edit_Check.j2 kq l0_3 (l0_3.length:Int) x22_2 x33_11 a0_0 a0_1 a0_2 l0_3 l0_4 ((rd_T114 l0_3 x22_2).f0) ((rd_T114 l0_3 x22_2).f1.f0) ((rd_T114 l0_3 x22_2).f1.f1) ((rd_T114 l0_3 x22_2).f1.f2) ((rd_T114 l0_3 x22_2).f1.f3) ((rd_T114 l0_3 x22_2).f1.f4) = some r) ∧ Aside0 (kq ≤ k2) ∧ Aside0 (wc.heap[gb189]? = some (.cells #[.int .u64 a0_0,.int .u64 a0_1,.int .u64 a0_2,(.slice (some ad190) l0_3.length c0_3),(.slice A0_4 l0_4.length c0_4)] 36 (0,0))) ∧ Aside0 (wc.heap[gb191]? = some (.cells #[.int .i64 ((rd_T114 l0_3 x22_2).f0),.int .u64 ((rd_T114 l0_3 x22_2).f1.f0),.int .u64 ((rd_T114 l0_3 x22_2).f1.f1),.int .u64 ((rd_T114 l0_3 x22_2).f1.f2),.string ((rd_T114 l0_3 x22_2).f1.f3),.string ((rd_T114 l0_3 x22_2).f1.f4)] 114 (0,0))) ∧ Aside0 (Below w.heap.size w wc))
         case first=>
          have H:=HC12.out
          clear HC12
          by_cases c16:((rd_T114 l0_3 x22_2).f0) < 0
          ·rw [if_pos c16] at H
           have c16b0:decide (((rd_T114 l0_3 x22_2).f0) < 0) = true:=decide_eq_true c16
           clear c16
           (first | rw [c16b0] | (simp only [i64_w,i32_w];rw [c16b0]) | skip)
           have H':=Aside0.mk H
           clear H
           have hnb17:=NB191_189.out
           have hnc17:=NB189_191.out
           have hcz18_0:w13.cell? ⟨gb191,0,none⟩ = some (.int .i64 0):=(blk_cell BK191.out 0).trans rfl
           have hcz18_1:w13.cell? ⟨gb191,1,none⟩ = some (.int .u64 0):=(blk_cell BK191.out 1).trans rfl
           have hcz18_2:w13.cell? ⟨gb191,2,none⟩ = some (.int .u64 0):=(blk_cell BK191.out 2).trans rfl
           have hcz18_3:w13.cell? ⟨gb191,3,none⟩ = some (.int .u64 0):=(blk_cell BK191.out 3).trans rfl
           have hcz18_4:w13.cell? ⟨gb191,4,none⟩ = some (.string (⟨#[]⟩:ByteArray)):=(blk_cell BK191.out 4).trans rfl
           have hcz18_5:w13.cell? ⟨gb191,5,none⟩ = some (.string (⟨#[]⟩:ByteArray)):=(blk_cell BK191.out 5).trans rfl
           have hfz18_0:=blk_frozen BK191.out 0
           have hfz18_1:=blk_frozen BK191.out 1
           have hfz18_2:=blk_frozen BK191.out 2
           have hfz18_3:=blk_frozen BK191.out 3
           have hfz18_4:=blk_frozen BK191.out 4
           have hfz18_5:=blk_frozen BK191.out 5
           go_wp2
           go_meet
           case rel=>exact ⟨_,(true),(by first | rfl | (simp;done) | (simp [*];done)),H',⟨by have:=HJ1.out;have:=HK2.out;first | omega | exact Nat.le_refl _⟩,⟨by (with_reducible repeat (first | refine blk_drewN ?_ _ | refine blk_drew ?_ | refine blk_alloc ?_ _));refine blk_far ?_ NB189_191.out _;(with_reducible repeat (first | refine blk_drewN ?_ _ | refine blk_drew ?_ | refine blk_alloc ?_ _));refine blk_far ?_ NB189_191.out _;(with_reducible repeat (first | refine blk_drewN ?_ _ | refine blk_drew ?_ | refine blk_alloc ?_ _));refine blk_far ?_ NB189_191.out _;(with_reducible repeat (first | refine blk_drewN ?_ _ | refine blk_drew ?_ | refine blk_alloc ?_ _));refine blk_far ?_ NB189_191.out _;(with_reducible repeat (first | refine blk_drewN ?_ _ | refine blk_drew ?_ | refine blk_alloc ?_ _));refine blk_far ?_ NB189_191.out _;(with_reducible repeat (first | refine blk_drewN ?_ _ | refine blk_drew ?_ | refine blk_alloc ?_ _));refine blk_far ?_ NB189_191.out _;(with_reducible repeat (first | refine blk_drewN ?_ _ | refine blk_drew ?_ | refine blk_alloc ?_ _));exact BK189.out⟩,⟨by (with_reducible repeat (first | refine blk_drewN ?_ _ | refine blk_drew ?_ | refine blk_alloc ?_ _));refine blk_put (cs:=#[.int .i64 ((rd_T114 l0_3 x22_2).f0),.int .u64 ((rd_T114 l0_3 x22_2).f1.f0),.int .u64 ((rd_T114 l0_3 x22_2).f1.f1),.int .u64 ((rd_T114 l0_3 x22_2).f1.f2),.string ((rd_T114 l0_3 x22_2).f1.f3),.string (⟨#[]⟩:ByteArray)]) ?_ 5 _ rfl;(with_reducible repeat (first | refine blk_drewN ?_ _ | refine blk_drew ?_ | refine blk_alloc ?_ _));refine blk_put (cs:=#[.int .i64 ((rd_T114 l0_3 x22_2).f0),.int .u64 ((rd_T114 l0_3 x22_2).f1.f0),.int .u64 ((rd_T114 l0_3 x22_2).f1.f1),.int .u64 ((rd_T114 l0_3 x22_2).f1.f2),.string (⟨#[]⟩:ByteArray),.string (⟨#[]⟩:ByteArray)]) ?_ 4 _ rfl;(with_reducible repeat (first | refine blk_drewN ?_ _ | refine blk_drew ?_ | refine blk_alloc ?_ _));refine blk_put (cs:=#[.int .i64 ((rd_T114 l0_3 x22_2).f0),.int .u64 ((rd_T114 l0_3 x22_2).f1.f0),.int .u64 ((rd_T114 l0_3 x22_2).f1.f1),.int .u64 0,.string (⟨#[]⟩:ByteArray),.string (⟨#[]⟩:ByteArray)]) ?_ 3 _ rfl;(with_reducible repeat (first | refine blk_drewN ?_ _ | refine blk_drew ?_ | refine blk_alloc ?_ _));refine blk_put (cs:=#[.int .i64 ((rd_T114 l0_3 x22_2).f0),.int .u64 ((rd_T114 l0_3 x22_2).f1.f0),.int .u64 0,.int .u64 0,.string (⟨#[]⟩:ByteArray),.string (⟨#[]⟩:ByteArray)]) ?_ 2 _ rfl;(with_reducible repeat (first | refine blk_drewN ?_ _ | refine blk_drew ?_ | refine blk_alloc ?_ _));refine blk_put (cs:=#[.int .i64 ((rd_T114 l0_3 x22_2).f0),.int .u64 0,.int .u64 0,.int .u64 0,.string (⟨#[]⟩:ByteArray),.string (⟨#[]⟩:ByteArray)]) ?_ 1 _ rfl;(with_reducible repeat (first | refine blk_drewN ?_ _ | refine blk_drew ?_ | refine blk_alloc ?_ _));refine blk_put (cs:=#[.int .i64 0,.int .u64 0,.int .u64 0,.int .u64 0,.string (⟨#[]⟩:ByteArray),.string (⟨#[]⟩:ByteArray)]) ?_ 0 _ rfl;(with_reducible repeat (first | refine blk_drewN ?_ _ | refine blk_drew ?_ | refine blk_alloc ?_ _));exact BK191.out⟩,⟨by repeat (first | (with_reducible first | exact HB.out | apply below_alloc | apply pw_below_drewN | apply below_drew1 | refine below_set ?_ GE189.out | refine below_set ?_ GE191.out) | exact HB.out)⟩⟩
          ·rw [if_neg c16] at H
           have c16b0:decide (((rd_T114 l0_3 x22_2).f0) < 0) = false:=decide_eq_false c16
           clear c16
           (first | rw [c16b0] | (simp only [i64_w,i32_w];rw [c16b0]) | skip)
           have H':=Aside0.mk H
           clear H
           have hnb19:=NB191_189.out
           have hnc19:=NB189_191.out
           have hcz20_0:w13.cell? ⟨gb191,0,none⟩ = some (.int .i64 0):=(blk_cell BK191.out 0).trans rfl
           have hcz20_1:w13.cell? ⟨gb191,1,none⟩ = some (.int .u64 0):=(blk_cell BK191.out 1).trans rfl
           have hcz20_2:w13.cell? ⟨gb191,2,none⟩ = some (.int .u64 0):=(blk_cell BK191.out 2).trans rfl
           have hcz20_3:w13.cell? ⟨gb191,3,none⟩ = some (.int .u64 0):=(blk_cell BK191.out 3).trans rfl
           have hcz20_4:w13.cell? ⟨gb191,4,none⟩ = some (.string (⟨#[]⟩:ByteArray)):=(blk_cell BK191.out 4).trans rfl
           have hcz20_5:w13.cell? ⟨gb191,5,none⟩ = some (.string (⟨#[]⟩:ByteArray)):=(blk_cell BK191.out 5).trans rfl
           have hfz20_0:=blk_frozen BK191.out 0
           have hfz20_1:=blk_frozen BK191.out 1
           have hfz20_2:=blk_frozen BK191.out 2
           have hfz20_3:=blk_frozen BK191.out 3
           have hfz20_4:=blk_frozen BK191.out 4
           have hfz20_5:=blk_frozen BK191.out 5
           go_wp2
           go_meet
           case rel=>exact ⟨_,(decide (((rd_T114 l0_3 x22_2).f0) > 3)),(by first | rfl | (simp;done) | (simp [*];done)),H',⟨by have:=HJ1.out;have:=HK2.out;first | omega | exact Nat.le_refl _⟩,⟨by (with_reducible repeat (first | refine blk_drewN ?_ _ | refine blk_drew ?_ | refine blk_alloc ?_ _));refine blk_far ?_ NB189_191.out _;(with_reducible repeat (first | refine blk_drewN ?_ _ | refine blk_drew ?_ | refine blk_alloc ?_ _));refine blk_far ?_ NB189_191.out _;(with_reducible repeat (first | refine blk_drewN ?_ _ | refine blk_drew ?_ | refine blk_alloc ?_ _));refine blk_far ?_ NB189_191.out _;(with_reducible repeat (first | refine blk_drewN ?_ _ | refine blk_drew ?_ | refine blk_alloc ?_ _));refine blk_far ?_ NB189_191.out _;(with_reducible repeat (first | refine blk_drewN ?_ _ | refine blk_drew ?_ | refine blk_alloc ?_ _));refine blk_far ?_ NB189_191.out _;(with_reducible repeat (first | refine blk_drewN ?_ _ | refine blk_drew ?_ | refine blk_alloc ?_ _));refine blk_far ?_ NB189_191.out _;(with_reducible repeat (first | refine blk_drewN ?_ _ | refine blk_drew ?_ | refine blk_alloc ?_ _));exact BK189.out⟩,⟨by (with_reducible repeat (first | refine blk_drewN ?_ _ | refine blk_drew ?_ | refine blk_alloc ?_ _));refine blk_put (cs:=#[.int .i64 ((rd_T114 l0_3 x22_2).f0),.int .u64 ((rd_T114 l0_3 x22_2).f1.f0),.int .u64 ((rd_T114 l0_3 x22_2).f1.f1),.int .u64 ((rd_T114 l0_3 x22_2).f1.f2),.string ((rd_T114 l0_3 x22_2).f1.f3),.string (⟨#[]⟩:ByteArray)]) ?_ 5 _ rfl;(with_reducible repeat (first | refine blk_drewN ?_ _ | refine blk_drew ?_ | refine blk_alloc ?_ _));refine blk_put (cs:=#[.int .i64 ((rd_T114 l0_3 x22_2).f0),.int .u64 ((rd_T114 l0_3 x22_2).f1.f0),.int .u64 ((rd_T114 l0_3 x22_2).f1.f1),.int .u64 ((rd_T114 l0_3 x22_2).f1.f2),.string (⟨#[]⟩:ByteArray),.string (⟨#[]⟩:ByteArray)]) ?_ 4 _ rfl;(with_reducible repeat (first | refine blk_drewN ?_ _ | refine blk_drew ?_ | refine blk_alloc ?_ _));refine blk_put (cs:=#[.int .i64 ((rd_T114 l0_3 x22_2).f0),.int .u64 ((rd_T114 l0_3 x22_2).f1.f0),.int .u64 ((rd_T114 l0_3 x22_2).f1.f1),.int .u64 0,.string (⟨#[]⟩:ByteArray),.string (⟨#[]⟩:ByteArray)]) ?_ 3 _ rfl;(with_reducible repeat (first | refine blk_drewN ?_ _ | refine blk_drew ?_ | refine blk_alloc ?_ _));refine blk_put (cs:=#[.int .i64 ((rd_T114 l0_3 x22_2).f0),.int .u64 ((rd_T114 l0_3 x22_2).f1.f0),.int .u64 0,.int .u64 0,.string (⟨#[]⟩:ByteArray),.string (⟨#[]⟩:ByteArray)]) ?_ 2 _ rfl;(with_reducible repeat (first | refine blk_drewN ?_ _ | refine blk_drew ?_ | refine blk_alloc ?_ _));refine blk_put (cs:=#[.int .i64 ((rd_T114 l0_3 x22_2).f0),.int .u64 0,.int .u64 0,.int .u64 0,.string (⟨#[]⟩:ByteArray),.string (⟨#[]⟩:ByteArray)]) ?_ 1 _ rfl;(with_reducible repeat (first | refine blk_drewN ?_ _ | refine blk_drew ?_ | refine blk_alloc ?_ _));refine blk_put (cs:=#[.int .i64 0,.int .u64 0,.int .u64 0,.int .u64 0,.string (⟨#[]⟩:ByteArray),.string (⟨#[]⟩:ByteArray)]) ?_ 0 _ rfl;(with_reducible repeat (first | refine blk_drewN ?_ _ | refine blk_drew ?_ | refine blk_alloc ?_ _));exact BK191.out⟩,⟨by repeat (first | (with_reducible first | exact HB.out | apply below_alloc | apply pw_below_drewN | apply below_drew1 | refine below_set ?_ GE189.out | refine below_set ?_ GE191.out) | exact HB.out)⟩⟩
         case rest=>
          clear HC12
          try clear c1
          try clear p1
          try clear q1
          try clear hx1
          try clear c2
          try clear p2
          try clear c4
          try clear c4b0
          try clear c4b1
          try clear c7
          try clear c9
          try clear c9b0
          try clear c10
          try clear c10b0
          try clear c11
          try clear c11b0
          try clear c14
          try clear c16
          try clear c16b0
          try clear c17
          try clear c19
          try clear p19
          try clear q19
          try clear hx19
          try clear hcz15_0
          try clear hcz15_1
          try clear hcz15_2
          try clear hcz15_3
          try clear hcz15_4
          try clear hcz15_5
          try clear hcz18_0
          try clear hcz18_1
          try clear hcz18_2
          try clear hcz18_3
          try clear hcz18_4
          try clear hcz18_5
          try clear hcz20_0
          try clear hcz20_1
          try clear hcz20_2
          try clear hcz20_3
          try clear hcz20_4
          try clear hcz20_5
          try clear hcz5_0
          try clear hcz5_1
          try clear hcz5_2
          try clear hcz5_3
          try clear hcz5_4
          try clear hcz6_0
          try clear hcz6_1
          try clear hcz6_2
          try clear hcz6_3
          try clear hcz6_4
          try clear hcz8_0
          try clear hcz8_1
          try clear hcz8_2
          try clear hcz8_3
          try clear hcz8_4
          try clear hfz15_0
          try clear hfz15_1
          try clear hfz15_2
          try clear hfz15_3
          try clear hfz15_4
          try clear hfz15_5
          try clear hfz18_0
          try clear hfz18_1
          try clear hfz18_2
          try clear hfz18_3
          try clear hfz18_4
          try clear hfz18_5
          try clear hfz20_0
          try clear hfz20_1
          try clear hfz20_2
          try clear hfz20_3
          try clear hfz20_4
          try clear hfz20_5
          try clear hfz5_0
          try clear hfz5_1
          try clear hfz5_2
          try clear hfz5_3
          try clear hfz5_4
          try clear hfz6_0
          try clear hfz6_1
          try clear hfz6_2
          try clear hfz6_3
          try clear hfz6_4
          try clear hfz8_0
          try clear hfz8_1
          try clear hfz8_2
          try clear hfz8_3
          try clear hfz8_4
          try clear hx190_0
          try clear hx190_1
          try clear hx190_2
          try clear hx190_3
          try clear hx190_4
          try clear hx190_5
          try clear p190
          try clear p2
          try clear q190
          obtain ⟨kq,x33_11,rfl,HA,HJ11,BK189,BK191,HB⟩:=hcut
          cases kq with
          | zero=>exact absurd HA.out (by simp [bourseref12_Edit_Check.j2])
          | succ kj11=>
           have H:=HA.out
           clear HA
           simp only [bourseref12_Edit_Check.j2] at H
           by_cases c21:x33_11 = true
           ·subst c21
            have H1:(some 21) = some r:=by rw [if_pos rfl] at H;exact H
            clear H
            have H:=H1
            clear H1
            obtain rfl:=Option.some.inj H
            go_wp2
            go_ret
            exact ⟨by first | rfl | (simp [errW_none,errW_some] <;> rfl) | (simp [*,errW_none,errW_some] <;> rfl),by repeat (first | (with_reducible first | exact HB.out | apply below_alloc | apply pw_below_drewN | apply below_drew1 | refine below_set ?_ GE189.out | refine below_set ?_ GE191.out) | exact HB.out)⟩
           ·replace c21:=Bool.eq_false_iff.mpr c21
            subst c21
            have H1:((some (([((rd_T114 l0_3 x22_2).f1.f3),((rd_T114 l0_3 x22_2).f1.f4)]:List ByteArray):List ByteArray)).bind fun y192=>(bourseref12_Edit_Check.l1 kj11 l0_3 (l0_3.length:Int) x22_2 y192 (y192.length:Int) 0 a0_0 a0_1 a0_2 l0_3 l0_4 ((rd_T114 l0_3 x22_2).f0) ((rd_T114 l0_3 x22_2).f1.f0) ((rd_T114 l0_3 x22_2).f1.f1) ((rd_T114 l0_3 x22_2).f1.f2) ((rd_T114 l0_3 x22_2).f1.f3) ((rd_T114 l0_3 x22_2).f1.f4))) = some r:=by rw [if_neg (show ¬ (false = true) by decide)] at H;exact H
            clear H
            have H:=H1
            clear H1
            obtain ⟨y192,hy192⟩:∃ y_:List ByteArray,y_ = (([((rd_T114 l0_3 x22_2).f1.f3),((rd_T114 l0_3 x22_2).f1.f4)]:List ByteArray)):=⟨_,rfl⟩
            replace H:(bourseref12_Edit_Check.l1 kj11 l0_3 (l0_3.length:Int) x22_2 y192 (y192.length:Int) 0 a0_0 a0_1 a0_2 l0_3 l0_4 ((rd_T114 l0_3 x22_2).f0) ((rd_T114 l0_3 x22_2).f1.f0) ((rd_T114 l0_3 x22_2).f1.f1) ((rd_T114 l0_3 x22_2).f1.f2) ((rd_T114 l0_3 x22_2).f1.f3) ((rd_T114 l0_3 x22_2).f1.f4)) = some r:=by first | (rw [hy192];with_reducible exact H) | (have H2_:=(Option.bind_some _ _).symm.trans H;rw [hy192];with_reducible exact H2_) | (have H2_:=(Option.bind_some _ _).symm.trans H;with_reducible exact H2_) | with_reducible exact H | (rw [hy192];exact H) | exact H
            have Ny192:=Aside0.mk hy192
            clear hy192
            have H':=Aside0.mk H
            clear H
            have hnb22:=NB191_189.out
            have hnc22:=NB189_191.out
            have hcz23_0:wc.cell? ⟨gb191,0,none⟩ = some (.int .i64 ((rd_T114 l0_3 x22_2).f0)):=(blk_cell BK191.out 0).trans rfl
            have hcz23_1:wc.cell? ⟨gb191,1,none⟩ = some (.int .u64 ((rd_T114 l0_3 x22_2).f1.f0)):=(blk_cell BK191.out 1).trans rfl
            have hcz23_2:wc.cell? ⟨gb191,2,none⟩ = some (.int .u64 ((rd_T114 l0_3 x22_2).f1.f1)):=(blk_cell BK191.out 2).trans rfl
            have hcz23_3:wc.cell? ⟨gb191,3,none⟩ = some (.int .u64 ((rd_T114 l0_3 x22_2).f1.f2)):=(blk_cell BK191.out 3).trans rfl
            have hcz23_4:wc.cell? ⟨gb191,4,none⟩ = some (.string ((rd_T114 l0_3 x22_2).f1.f3)):=(blk_cell BK191.out 4).trans rfl
            have hcz23_5:wc.cell? ⟨gb191,5,none⟩ = some (.string ((rd_T114 l0_3 x22_2).f1.f4)):=(blk_cell BK191.out 5).trans rfl
            have hfz23_0:=blk_frozen BK191.out 0
            have hfz23_1:=blk_frozen BK191.out 1
            have hfz23_2:=blk_frozen BK191.out 2
            have hfz23_3:=blk_frozen BK191.out 3
            have hfz23_4:=blk_frozen BK191.out 4
            have hfz23_5:=blk_frozen BK191.out 5
            go_wp2_with (first | ((with_reducible refine gate_dst (N:=40) rfl ?_);(try (refine gate_guard (by rfl) ?_;dsimp only));refine Kd.R_lit Kd.string _ 9 ?hg (N:=40) ?hd (xs:=([((rd_T114 l0_3 x22_2).f1.f3),((rd_T114 l0_3 x22_2).f1.f4)]:List ByteArray)) (inner:=[.string ((rd_T114 l0_3 x22_2).f1.f3),.string ((rd_T114 l0_3 x22_2).f1.f4)]) (ok:=fun _=>True) (okp:=fun _=>True) ?hr ?hp (fun _ hk=>hk) trivial (Below.refl _ _) (Nat.le_refl _) (by simp) ?_;(case hd=>rfl);(case hg=>rfl);(case hr=>first | (go_simp;done) | (go_simp;rfl));(case hp=>exact (Reps.one (show Kd.M Kd.string _ _ _ ((rd_T114 l0_3 x22_2).f1.f3) [.string ((rd_T114 l0_3 x22_2).f1.f3)] from rfl) (Reps.one (show Kd.M Kd.string _ _ _ ((rd_T114 l0_3 x22_2).f1.f4) [.string ((rd_T114 l0_3 x22_2).f1.f4)] from rfl) (Reps.none _ _))));intro v193 w24 ho25 hb hg_ hnew_;clear hg_ hnew_;(first | rw [← Ny192.out] at ho25 | (simp only [Int.reduceToNat] at ho25;rw [← Ny192.out] at ho25));have n0_:=Aside0.mk (Kd.R_lower ho25 (below_size (by repeat (first | (with_reducible first | exact HB.out | apply below_alloc | apply pw_below_drewN | apply below_drew1 | refine below_set ?_ GE189.out | refine below_set ?_ GE191.out) | exact HB.out))));have n1_:=Aside0.mk (blk_below (g:=gb189) (o:=.cells #[.int .u64 a0_0,.int .u64 a0_1,.int .u64 a0_2,.slice (some ad190) l0_3.length c0_3,.slice A0_4 l0_4.length c0_4] 36 (0,0)) (by (with_reducible repeat (first | refine blk_drewN ?_ _ | refine blk_drew ?_ | refine blk_alloc ?_ _));exact BK189.out) hb);have n2_:=Aside0.mk (blk_below (g:=gb191) (o:=.cells #[.int .i64 ((rd_T114 l0_3 x22_2).f0),.int .u64 ((rd_T114 l0_3 x22_2).f1.f0),.int .u64 ((rd_T114 l0_3 x22_2).f1.f1),.int .u64 ((rd_T114 l0_3 x22_2).f1.f2),.string ((rd_T114 l0_3 x22_2).f1.f3),.string ((rd_T114 l0_3 x22_2).f1.f4)] 114 (0,0)) (by (with_reducible repeat (first | refine blk_drewN ?_ _ | refine blk_drew ?_ | refine blk_alloc ?_ _));exact BK191.out) hb);have n3_:=Aside0.mk (below_step (by repeat (first | (with_reducible first | exact HB.out | apply below_alloc | apply pw_below_drewN | apply below_drew1 | refine below_set ?_ GE189.out | refine below_set ?_ GE191.out) | exact HB.out)) hb);clear BK189;clear BK191;clear HB;have HO194:=n0_;have BK189:=n1_;have BK191:=n2_;have HB:=n3_;clear n0_ n1_ n2_ n3_;clear hb ho25;obtain ⟨Ao26,co26,eo26⟩:=Kd.R_slice HO194.out;subst eo26))
            go_loopg [42] kj11 (fun kq v42 w'=>∃ (x42_4:Int),v42 = .int .i64 x42_4 ∧ Aside0 (bourseref12_Edit_Check.l1 kq l0_3 (l0_3.length:Int) x22_2 y192 (y192.length:Int) x42_4 a0_0 a0_1 a0_2 l0_3 l0_4 ((rd_T114 l0_3 x22_2).f0) ((rd_T114 l0_3 x22_2).f1.f0) ((rd_T114 l0_3 x22_2).f1.f1) ((rd_T114 l0_3 x22_2).f1.f2) ((rd_T114 l0_3 x22_2).f1.f3) ((rd_T114 l0_3 x22_2).f1.f4) = some r) ∧ Aside0 (kq ≤ kj11) ∧ Aside0 (Kd.R Kd.string 9 w' w.heap.size (fun _=>True) (.slice Ao26 y192.length co26) y192) ∧ Aside0 (w'.heap[gb189]? = some (.cells #[.int .u64 a0_0,.int .u64 a0_1,.int .u64 a0_2,(.slice (some ad190) l0_3.length c0_3),(.slice A0_4 l0_4.length c0_4)] 36 (0,0))) ∧ Aside0 (w'.heap[gb191]? = some (.cells #[.int .i64 ((rd_T114 l0_3 x22_2).f0),.int .u64 ((rd_T114 l0_3 x22_2).f1.f0),.int .u64 ((rd_T114 l0_3 x22_2).f1.f1),.int .u64 ((rd_T114 l0_3 x22_2).f1.f2),.string ((rd_T114 l0_3 x22_2).f1.f3),.string ((rd_T114 l0_3 x22_2).f1.f4)] 114 (0,0))) ∧ Aside0 (Below w.heap.size w w'))
            case atStart=>exact ⟨(0),(by first | rfl | (simp;done) | (simp [*];done)),H',⟨Nat.le_refl _⟩,⟨by (with_reducible repeat (first | apply Kd.R_alloc | apply Kd.R_drewN | apply Kd.R_drew));exact HO194.out⟩,⟨by (with_reducible repeat (first | refine blk_drewN ?_ _ | refine blk_drew ?_ | refine blk_alloc ?_ _));exact BK189.out⟩,⟨by (with_reducible repeat (first | refine blk_drewN ?_ _ | refine blk_drew ?_ | refine blk_alloc ?_ _));exact BK191.out⟩,⟨by repeat (first | (with_reducible first | exact HB.out | apply below_alloc | apply pw_below_drewN | apply below_drew1 | refine below_set ?_ GE189.out | refine below_set ?_ GE191.out) | exact HB.out)⟩⟩
            case round=>
             clear H'
             try clear c1
             try clear p1
             try clear q1
             try clear hx1
             try clear c2
             try clear p2
             try clear c4
             try clear c4b0
             try clear c4b1
             try clear c7
             try clear c9
             try clear c9b0
             try clear c10
             try clear c10b0
             try clear c11
             try clear c11b0
             try clear c14
             try clear c16
             try clear c16b0
             try clear c17
             try clear c19
             try clear p19
             try clear q19
             try clear hx19
             try clear c21
             try clear c22
             try clear hcz15_0
             try clear hcz15_1
             try clear hcz15_2
             try clear hcz15_3
             try clear hcz15_4
             try clear hcz15_5
             try clear hcz18_0
             try clear hcz18_1
             try clear hcz18_2
             try clear hcz18_3
             try clear hcz18_4
             try clear hcz18_5
             try clear hcz20_0
             try clear hcz20_1
             try clear hcz20_2
             try clear hcz20_3
             try clear hcz20_4
             try clear hcz20_5
             try clear hcz23_0
             try clear hcz23_1
             try clear hcz23_2
             try clear hcz23_3
             try clear hcz23_4
             try clear hcz23_5
             try clear hcz5_0
             try clear hcz5_1
             try clear hcz5_2
             try clear hcz5_3
             try clear hcz5_4
             try clear hcz6_0
             try clear hcz6_1
             try clear hcz6_2
             try clear hcz6_3
             try clear hcz6_4
             try clear hcz8_0
             try clear hcz8_1
             try clear hcz8_2
             try clear hcz8_3
             try clear hcz8_4
             try clear hfz15_0
             try clear hfz15_1
             try clear hfz15_2
             try clear hfz15_3
             try clear hfz15_4
             try clear hfz15_5
             try clear hfz18_0
             try clear hfz18_1
             try clear hfz18_2
             try clear hfz18_3
             try clear hfz18_4
             try clear hfz18_5
             try clear hfz20_0
             try clear hfz20_1
             try clear hfz20_2
             try clear hfz20_3
             try clear hfz20_4
             try clear hfz20_5
             try clear hfz23_0
             try clear hfz23_1
             try clear hfz23_2
             try clear hfz23_3
             try clear hfz23_4
             try clear hfz23_5
             try clear hfz5_0
             try clear hfz5_1
             try clear hfz5_2
             try clear hfz5_3
             try clear hfz5_4
             try clear hfz6_0
             try clear hfz6_1
             try clear hfz6_2
             try clear hfz6_3
             try clear hfz6_4
             try clear hfz8_0
             try clear hfz8_1
             try clear hfz8_2
             try clear hfz8_3
             try clear hfz8_4
             try clear hx190_0
             try clear hx190_1
             try clear hx190_2
             try clear hx190_3
             try clear hx190_4
             try clear hx190_5
             try clear p1
             try clear p19
             try clear p190
             try clear p2
             try clear q1
             try clear q19
             try clear q190
             obtain ⟨x42_4,rfl,HA,HK4,HO_40,BK189,BK191,HB⟩:=hrel
             cases gk with
             | zero=>exact absurd HA.out (by simp [bourseref12_Edit_Check.l1])
             | succ k4=>
              have H:=HA.out
              clear HA
              simp only [bourseref12_Edit_Check.l1] at H
              by_cases c27:x42_4 < (y192.length:Int)
              ·rw [if_pos c27] at H
               have c27b0:decide (x42_4 < (y192.length:Int)) = true:=decide_eq_true c27
               clear c27
               by_cases c28:0 ≤ x42_4
               ·rw [if_pos c28] at H
                have c28b0:decide (0 ≤ x42_4) = true:=decide_eq_true c28
                clear c28
                by_cases c29:x42_4 < (y192.length:Int)
                ·rw [if_pos c29] at H
                 have c29b0:decide (x42_4 < (y192.length:Int)) = true:=decide_eq_true c29
                 clear c29
                 by_cases c30:((rdOf ByteArray.empty y192 x42_4).size:Int) < 1
                 ·rw [if_pos c30] at H
                  have c30b0:decide (((rdOf ByteArray.empty y192 x42_4).size:Int) < 1) = true:=decide_eq_true c30
                  have c30b1:decide ((rdOf ByteArray.empty y192 x42_4).size < 1) = true:=decide_eq_true (by omega)
                  clear c30
                  obtain rfl:=Option.some.inj H
                  have p195:0 ≤ (x42_4:Int):=of_decide_eq_true (by first | (with_reducible assumption) | assumption)
                  have q195:x42_4 < (y192.length:Int):=of_decide_eq_true (by first | (with_reducible assumption) | assumption)
                  obtain ⟨ad195,e195,hx195_0⟩:=Kd.at_string (Kd.R_reads' HO_40.out).2.2 x42_4 p195 q195
                  cases e195
                  replace p195:=eq_true p195
                  replace q195:=eq_true q195
                  go_wp2
                  go_ret
                  exact ⟨by first | rfl | (simp [errW_none,errW_some] <;> rfl) | (simp [*,errW_none,errW_some] <;> rfl),by repeat (first | (with_reducible first | exact HB.out | apply below_alloc | apply pw_below_drewN | apply below_drew1 | refine below_set ?_ GE189.out | refine below_set ?_ GE191.out) | exact HB.out)⟩
                 ·rw [if_neg c30] at H
                  have c30b0:decide (((rdOf ByteArray.empty y192 x42_4).size:Int) < 1) = false:=decide_eq_false c30
                  have c30b1:decide ((rdOf ByteArray.empty y192 x42_4).size < 1) = false:=decide_eq_false (by omega)
                  clear c30
                  by_cases c31:((rdOf ByteArray.empty y192 x42_4).size:Int) > 200
                  ·rw [if_pos c31] at H
                   have c31b0:decide (200 < ((rdOf ByteArray.empty y192 x42_4).size:Int)) = true:=decide_eq_true c31
                   have c31b1:decide (200 < (rdOf ByteArray.empty y192 x42_4).size) = true:=decide_eq_true (by omega)
                   clear c31
                   obtain rfl:=Option.some.inj H
                   have p195:0 ≤ (x42_4:Int):=of_decide_eq_true (by first | (with_reducible assumption) | assumption)
                   have q195:x42_4 < (y192.length:Int):=of_decide_eq_true (by first | (with_reducible assumption) | assumption)
                   obtain ⟨ad195,e195,hx195_0⟩:=Kd.at_string (Kd.R_reads' HO_40.out).2.2 x42_4 p195 q195
                   cases e195
                   replace p195:=eq_true p195
                   replace q195:=eq_true q195
                   go_wp2
                   go_ret
                   exact ⟨by first | rfl | (simp [errW_none,errW_some] <;> rfl) | (simp [*,errW_none,errW_some] <;> rfl),by repeat (first | (with_reducible first | exact HB.out | apply below_alloc | apply pw_below_drewN | apply below_drew1 | refine below_set ?_ GE189.out | refine below_set ?_ GE191.out) | exact HB.out)⟩
                  ·rw [if_neg c31] at H
                   have c31b0:decide (200 < ((rdOf ByteArray.empty y192 x42_4).size:Int)) = false:=decide_eq_false c31
                   have c31b1:decide (200 < (rdOf ByteArray.empty y192 x42_4).size) = false:=decide_eq_false (by omega)
                   clear c31
                   have H':=Aside0.mk H
                   clear H
                   have p195:0 ≤ (x42_4:Int):=of_decide_eq_true (by first | (with_reducible assumption) | assumption)
                   have q195:x42_4 < (y192.length:Int):=of_decide_eq_true (by first | (with_reducible assumption) | assumption)
                   obtain ⟨ad195,e195,hx195_0⟩:=Kd.at_string (Kd.R_reads' HO_40.out).2.2 x42_4 p195 q195
                   cases e195
                   replace p195:=eq_true p195
                   replace q195:=eq_true q195
                   go_wp2
                   go_roundg k4
                   case measure=>have:=HJ1.out;have:=HK2.out;have:=HJ11.out;have:=HK4.out;omega
                   case rel=>exact ⟨(wrap64 (x42_4 + 1)),(by first | rfl | (simp;done) | (simp [*];done)),H',⟨by have:=HJ1.out;have:=HK2.out;have:=HJ11.out;have:=HK4.out;omega⟩,⟨by (with_reducible repeat (first | apply Kd.R_alloc | apply Kd.R_drewN | apply Kd.R_drew));exact HO_40.out⟩,⟨by (with_reducible repeat (first | refine blk_drewN ?_ _ | refine blk_drew ?_ | refine blk_alloc ?_ _));exact BK189.out⟩,⟨by (with_reducible repeat (first | refine blk_drewN ?_ _ | refine blk_drew ?_ | refine blk_alloc ?_ _));exact BK191.out⟩,⟨by repeat (first | (with_reducible first | exact HB.out | apply below_alloc | apply pw_below_drewN | apply below_drew1 | refine below_set ?_ GE189.out | refine below_set ?_ GE191.out) | exact HB.out)⟩⟩
                ·rw [if_neg c29] at H
                 exact absurd H (by simp)
               ·rw [if_neg c28] at H
                exact absurd H (by simp)
              ·rw [if_neg c27] at H
               have c27b0:decide (x42_4 < (y192.length:Int)) = false:=decide_eq_false c27
               clear c27
               by_cases c32:(Op.bytesLess ((rd_T114 l0_3 x22_2).f1.f4).toList ((rd_T114 l0_3 x22_2).f1.f3).toList) = true
               ·rw [if_pos c32] at H
                have c32b0:(Op.bytesLess ((rd_T114 l0_3 x22_2).f1.f4).toList ((rd_T114 l0_3 x22_2).f1.f3).toList) = true:=c32
                clear c32
                obtain rfl:=Option.some.inj H
                have hnb33:=NB191_189.out
                have hnc33:=NB189_191.out
                have hcz34_0:wr.cell? ⟨gb191,0,none⟩ = some (.int .i64 ((rd_T114 l0_3 x22_2).f0)):=(blk_cell BK191.out 0).trans rfl
                have hcz34_1:wr.cell? ⟨gb191,1,none⟩ = some (.int .u64 ((rd_T114 l0_3 x22_2).f1.f0)):=(blk_cell BK191.out 1).trans rfl
                have hcz34_2:wr.cell? ⟨gb191,2,none⟩ = some (.int .u64 ((rd_T114 l0_3 x22_2).f1.f1)):=(blk_cell BK191.out 2).trans rfl
                have hcz34_3:wr.cell? ⟨gb191,3,none⟩ = some (.int .u64 ((rd_T114 l0_3 x22_2).f1.f2)):=(blk_cell BK191.out 3).trans rfl
                have hcz34_4:wr.cell? ⟨gb191,4,none⟩ = some (.string ((rd_T114 l0_3 x22_2).f1.f3)):=(blk_cell BK191.out 4).trans rfl
                have hcz34_5:wr.cell? ⟨gb191,5,none⟩ = some (.string ((rd_T114 l0_3 x22_2).f1.f4)):=(blk_cell BK191.out 5).trans rfl
                have hfz34_0:=blk_frozen BK191.out 0
                have hfz34_1:=blk_frozen BK191.out 1
                have hfz34_2:=blk_frozen BK191.out 2
                have hfz34_3:=blk_frozen BK191.out 3
                have hfz34_4:=blk_frozen BK191.out 4
                have hfz34_5:=blk_frozen BK191.out 5
                go_wp2
                go_ret
                exact ⟨by first | rfl | (simp [errW_none,errW_some] <;> rfl) | (simp [*,errW_none,errW_some] <;> rfl),by repeat (first | (with_reducible first | exact HB.out | apply below_alloc | apply pw_below_drewN | apply below_drew1 | refine below_set ?_ GE189.out | refine below_set ?_ GE191.out) | exact HB.out)⟩
               ·rw [if_neg c32] at H
                have c32b0:(Op.bytesLess ((rd_T114 l0_3 x22_2).f1.f4).toList ((rd_T114 l0_3 x22_2).f1.f3).toList) = false:=by simpa using c32
                clear c32
                by_cases c35:((rd_T114 l0_3 x22_2).f1.f0) = 0
                ·rw [if_pos c35] at H
                 have c35b0:(((rd_T114 l0_3 x22_2).f1.f0) == 0) = true:=beq_iff_eq.mpr c35
                 have c35b1:(((rd_T114 l0_3 x22_2).f1.f0) != 0) = false:=bne_eq_false_iff_eq.mpr c35
                 clear c35
                 obtain rfl:=Option.some.inj H
                 have hnb36:=NB191_189.out
                 have hnc36:=NB189_191.out
                 have hcz37_0:wr.cell? ⟨gb191,0,none⟩ = some (.int .i64 ((rd_T114 l0_3 x22_2).f0)):=(blk_cell BK191.out 0).trans rfl
                 have hcz37_1:wr.cell? ⟨gb191,1,none⟩ = some (.int .u64 ((rd_T114 l0_3 x22_2).f1.f0)):=(blk_cell BK191.out 1).trans rfl
                 have hcz37_2:wr.cell? ⟨gb191,2,none⟩ = some (.int .u64 ((rd_T114 l0_3 x22_2).f1.f1)):=(blk_cell BK191.out 2).trans rfl
                 have hcz37_3:wr.cell? ⟨gb191,3,none⟩ = some (.int .u64 ((rd_T114 l0_3 x22_2).f1.f2)):=(blk_cell BK191.out 3).trans rfl
                 have hcz37_4:wr.cell? ⟨gb191,4,none⟩ = some (.string ((rd_T114 l0_3 x22_2).f1.f3)):=(blk_cell BK191.out 4).trans rfl
                 have hcz37_5:wr.cell? ⟨gb191,5,none⟩ = some (.string ((rd_T114 l0_3 x22_2).f1.f4)):=(blk_cell BK191.out 5).trans rfl
                 have hfz37_0:=blk_frozen BK191.out 0
                 have hfz37_1:=blk_frozen BK191.out 1
                 have hfz37_2:=blk_frozen BK191.out 2
                 have hfz37_3:=blk_frozen BK191.out 3
                 have hfz37_4:=blk_frozen BK191.out 4
                 have hfz37_5:=blk_frozen BK191.out 5
                 go_wp2
                 go_ret
                 exact ⟨by first | rfl | (simp [errW_none,errW_some] <;> rfl) | (simp [*,errW_none,errW_some] <;> rfl),by repeat (first | (with_reducible first | exact HB.out | apply below_alloc | apply pw_below_drewN | apply below_drew1 | refine below_set ?_ GE189.out | refine below_set ?_ GE191.out) | exact HB.out)⟩
                ·rw [if_neg c35] at H
                 have c35b0:(((rd_T114 l0_3 x22_2).f1.f0) == 0) = false:=beq_eq_false_iff_ne.mpr c35
                 have c35b1:(((rd_T114 l0_3 x22_2).f1.f0) != 0) = true:=bne_iff_ne.mpr c35
                 have H':=Aside0.mk H
                 clear H
                 have hnb38:=NB191_189.out
                 have hnc38:=NB189_191.out
                 have hcz39_0:wr.cell? ⟨gb191,0,none⟩ = some (.int .i64 ((rd_T114 l0_3 x22_2).f0)):=(blk_cell BK191.out 0).trans rfl
                 have hcz39_1:wr.cell? ⟨gb191,1,none⟩ = some (.int .u64 ((rd_T114 l0_3 x22_2).f1.f0)):=(blk_cell BK191.out 1).trans rfl
                 have hcz39_2:wr.cell? ⟨gb191,2,none⟩ = some (.int .u64 ((rd_T114 l0_3 x22_2).f1.f1)):=(blk_cell BK191.out 2).trans rfl
                 have hcz39_3:wr.cell? ⟨gb191,3,none⟩ = some (.int .u64 ((rd_T114 l0_3 x22_2).f1.f2)):=(blk_cell BK191.out 3).trans rfl
                 have hcz39_4:wr.cell? ⟨gb191,4,none⟩ = some (.string ((rd_T114 l0_3 x22_2).f1.f3)):=(blk_cell BK191.out 4).trans rfl
                 have hcz39_5:wr.cell? ⟨gb191,5,none⟩ = some (.string ((rd_T114 l0_3 x22_2).f1.f4)):=(blk_cell BK191.out 5).trans rfl
                 have hfz39_0:=blk_frozen BK191.out 0
                 have hfz39_1:=blk_frozen BK191.out 1
                 have hfz39_2:=blk_frozen BK191.out 2
                 have hfz39_3:=blk_frozen BK191.out 3
                 have hfz39_4:=blk_frozen BK191.out 4
                 have hfz39_5:=blk_frozen BK191.out 5
                 go_wp2
                 go_roundg k4
                 case measure=>have:=HJ1.out;have:=HK2.out;have:=HJ11.out;have:=HK4.out;omega
                 case rel=>exact ⟨(wrap64 (x22_2 + 1)),(by first | rfl | (simp;done) | (simp [*];done)),H',⟨by have:=HJ1.out;have:=HK2.out;have:=HJ11.out;have:=HK4.out;omega⟩,⟨by (with_reducible repeat (first | refine blk_drewN ?_ _ | refine blk_drew ?_ | refine blk_alloc ?_ _));exact BK189.out⟩,⟨by repeat (first | (with_reducible first | exact HB.out | apply below_alloc | apply pw_below_drewN | apply below_drew1 | refine below_set ?_ GE189.out | refine below_set ?_ GE191.out) | exact HB.out)⟩⟩
        ·rw [if_neg c11] at H
         exact absurd H (by simp)
       ·rw [if_neg c10] at H
        exact absurd H (by simp)
      ·rw [if_neg c9] at H
       have c9b0:decide (x22_2 < (l0_3.length:Int)) = false:=decide_eq_false c9
       clear c9
       have H':=Aside0.mk H
       clear H
       have hcz40_0:wr.cell? ⟨gb189,0,none⟩ = some (.int .u64 a0_0):=(blk_cell BK189.out 0).trans rfl
       have hcz40_1:wr.cell? ⟨gb189,1,none⟩ = some (.int .u64 a0_1):=(blk_cell BK189.out 1).trans rfl
       have hcz40_2:wr.cell? ⟨gb189,2,none⟩ = some (.int .u64 a0_2):=(blk_cell BK189.out 2).trans rfl
       have hcz40_3:wr.cell? ⟨gb189,3,none⟩ = some (.slice A0_3 l0_3.length c0_3):=(blk_cell BK189.out 3).trans rfl
       have hcz40_4:wr.cell? ⟨gb189,4,none⟩ = some (.slice A0_4 l0_4.length c0_4):=(blk_cell BK189.out 4).trans rfl
       have hfz40_0:=blk_frozen BK189.out 0
       have hfz40_1:=blk_frozen BK189.out 1
       have hfz40_2:=blk_frozen BK189.out 2
       have hfz40_3:=blk_frozen BK189.out 3
       have hfz40_4:=blk_frozen BK189.out 4
       go_wp2
       go_loopg [70] k2 (fun kq v70 w'=>∃ (x70_3:Int),v70 = .int .i64 x70_3 ∧ Aside0 (bourseref12_Edit_Check.l2 kq l0_4 (l0_4.length:Int) x70_3 = some r) ∧ Aside0 (kq ≤ k2) ∧ Aside0 (w'.heap[gb189]? = some (.cells #[.int .u64 a0_0,.int .u64 a0_1,.int .u64 a0_2,(.slice A0_3 l0_3.length c0_3),(.slice A0_4 l0_4.length c0_4)] 36 (0,0))) ∧ Aside0 (Below w.heap.size w w'))
       case atStart=>exact ⟨(0),(by first | rfl | (simp;done) | (simp [*];done)),H',⟨Nat.le_refl _⟩,⟨by (with_reducible repeat (first | refine blk_drewN ?_ _ | refine blk_drew ?_ | refine blk_alloc ?_ _));exact BK189.out⟩,⟨by repeat (first | (with_reducible first | exact HB.out | apply below_alloc | apply pw_below_drewN | apply below_drew1 | refine below_set ?_ GE189.out) | exact HB.out)⟩⟩
       case round=>
        clear H'
        try clear c1
        try clear p1
        try clear q1
        try clear hx1
        try clear c2
        try clear p2
        try clear c3
        try clear c4
        try clear c4b0
        try clear c4b1
        try clear p6
        try clear c7
        try clear c9
        try clear c9b0
        try clear c10
        try clear c10b0
        try clear c11
        try clear c11b0
        try clear c14
        try clear c16
        try clear c16b0
        try clear c17
        try clear c19
        try clear p19
        try clear q19
        try clear hx19
        try clear c21
        try clear c22
        try clear c27
        try clear c27b0
        try clear c28
        try clear c28b0
        try clear c29
        try clear c29b0
        try clear c30
        try clear c30b0
        try clear c30b1
        try clear c31
        try clear c31b0
        try clear c31b1
        try clear c32
        try clear c32b0
        try clear c33
        try clear c35
        try clear c35b0
        try clear c35b1
        try clear c36
        try clear c38
        try clear hcz15_0
        try clear hcz15_1
        try clear hcz15_2
        try clear hcz15_3
        try clear hcz15_4
        try clear hcz15_5
        try clear hcz18_0
        try clear hcz18_1
        try clear hcz18_2
        try clear hcz18_3
        try clear hcz18_4
        try clear hcz18_5
        try clear hcz20_0
        try clear hcz20_1
        try clear hcz20_2
        try clear hcz20_3
        try clear hcz20_4
        try clear hcz20_5
        try clear hcz23_0
        try clear hcz23_1
        try clear hcz23_2
        try clear hcz23_3
        try clear hcz23_4
        try clear hcz23_5
        try clear hcz34_0
        try clear hcz34_1
        try clear hcz34_2
        try clear hcz34_3
        try clear hcz34_4
        try clear hcz34_5
        try clear hcz37_0
        try clear hcz37_1
        try clear hcz37_2
        try clear hcz37_3
        try clear hcz37_4
        try clear hcz37_5
        try clear hcz39_0
        try clear hcz39_1
        try clear hcz39_2
        try clear hcz39_3
        try clear hcz39_4
        try clear hcz39_5
        try clear hcz40_0
        try clear hcz40_1
        try clear hcz40_2
        try clear hcz40_3
        try clear hcz40_4
        try clear hcz5_0
        try clear hcz5_1
        try clear hcz5_2
        try clear hcz5_3
        try clear hcz5_4
        try clear hcz6_0
        try clear hcz6_1
        try clear hcz6_2
        try clear hcz6_3
        try clear hcz6_4
        try clear hcz8_0
        try clear hcz8_1
        try clear hcz8_2
        try clear hcz8_3
        try clear hcz8_4
        try clear hfz15_0
        try clear hfz15_1
        try clear hfz15_2
        try clear hfz15_3
        try clear hfz15_4
        try clear hfz15_5
        try clear hfz18_0
        try clear hfz18_1
        try clear hfz18_2
        try clear hfz18_3
        try clear hfz18_4
        try clear hfz18_5
        try clear hfz20_0
        try clear hfz20_1
        try clear hfz20_2
        try clear hfz20_3
        try clear hfz20_4
        try clear hfz20_5
        try clear hfz23_0
        try clear hfz23_1
        try clear hfz23_2
        try clear hfz23_3
        try clear hfz23_4
        try clear hfz23_5
        try clear hfz34_0
        try clear hfz34_1
        try clear hfz34_2
        try clear hfz34_3
        try clear hfz34_4
        try clear hfz34_5
        try clear hfz37_0
        try clear hfz37_1
        try clear hfz37_2
        try clear hfz37_3
        try clear hfz37_4
        try clear hfz37_5
        try clear hfz39_0
        try clear hfz39_1
        try clear hfz39_2
        try clear hfz39_3
        try clear hfz39_4
        try clear hfz39_5
        try clear hfz40_0
        try clear hfz40_1
        try clear hfz40_2
        try clear hfz40_3
        try clear hfz40_4
        try clear hfz5_0
        try clear hfz5_1
        try clear hfz5_2
        try clear hfz5_3
        try clear hfz5_4
        try clear hfz6_0
        try clear hfz6_1
        try clear hfz6_2
        try clear hfz6_3
        try clear hfz6_4
        try clear hfz8_0
        try clear hfz8_1
        try clear hfz8_2
        try clear hfz8_3
        try clear hfz8_4
        try clear hx190_0
        try clear hx190_1
        try clear hx190_2
        try clear hx190_3
        try clear hx190_4
        try clear hx190_5
        try clear hx195_0
        try clear p1
        try clear p19
        try clear p190
        try clear p195
        try clear p2
        try clear q1
        try clear q19
        try clear q190
        try clear q195
        obtain ⟨x70_3,rfl,HA,HK3,BK189,HB⟩:=hrel
        cases gk with
        | zero=>exact absurd HA.out (by simp [bourseref12_Edit_Check.l2])
        | succ k3=>
         have H:=HA.out
         clear HA
         simp only [bourseref12_Edit_Check.l2] at H
         by_cases c41:x70_3 < (l0_4.length:Int)
         ·rw [if_pos c41] at H
          have c41b0:decide (x70_3 < (l0_4.length:Int)) = true:=decide_eq_true c41
          clear c41
          by_cases c42:0 ≤ x70_3
          ·rw [if_pos c42] at H
           have c42b0:decide (0 ≤ x70_3) = true:=decide_eq_true c42
           clear c42
           by_cases c43:x70_3 < (l0_4.length:Int)
           ·rw [if_pos c43] at H
            have c43b0:decide (x70_3 < (l0_4.length:Int)) = true:=decide_eq_true c43
            clear c43
            by_cases c44:((rd_T115 l0_4 x70_3).f0) < 0
            ·rw [if_pos c44] at H
             have c44b0:decide (((rd_T115 l0_4 x70_3).f0) < 0) = true:=decide_eq_true c44
             clear c44
             obtain rfl:=Option.some.inj H
             have p196:0 ≤ (x70_3:Int):=of_decide_eq_true (by first | (with_reducible assumption) | assumption)
             have q196:x70_3 < (l0_4.length:Int):=of_decide_eq_true (by first | (with_reducible assumption) | assumption)
             obtain ⟨ad196,e196,hx196_0,hx196_1⟩:=at_T115 HR0_4.out x70_3 p196 q196
             cases e196
             replace hx196_0:=(HB.out.cell (World.block_lt_of_cell? w _ hx196_0)).trans hx196_0
             replace hx196_1:=(HB.out.cell (World.block_lt_of_cell? w _ hx196_1)).trans hx196_1
             replace p196:=eq_true p196
             replace q196:=eq_true q196
             go_wp2_with (first | ((with_reducible refine gate_dst (N:=8) rfl ?_);(try (refine gate_guard (by rfl) ?_;dsimp only));refine box_event ?hg (N:=8) ?hd (cs:=#[.int .i64 0,.int .u64 0]) (t:=115) ?hr ?_;(case hd=>rfl);(case hg=>rfl);(case hr=>first | (go_simp;done) | (go_simp;rfl));intro gb197 hg w45 hbox hb;have n0_:=Aside0.mk (blk_below (g:=gb189) (o:=.cells #[.int .u64 a0_0,.int .u64 a0_1,.int .u64 a0_2,.slice A0_3 l0_3.length c0_3,.slice (some ad196) l0_4.length c0_4] 36 (0,0)) (by (with_reducible repeat (first | refine blk_drewN ?_ _ | refine blk_drew ?_ | refine blk_alloc ?_ _));exact BK189.out) hb);have n1_:=Aside0.mk (below_step (by repeat (first | (with_reducible first | exact HB.out | apply below_alloc | apply pw_below_drewN | apply below_drew1 | refine below_set ?_ GE189.out) | exact HB.out)) hb);have n2_:=Aside0.mk (hbox);have n3_:=Aside0.mk ((by rw [hg];exact (below_size (by repeat (first | (with_reducible first | exact HB.out | apply below_alloc | apply pw_below_drewN | apply below_drew1 | refine below_set ?_ GE189.out) | exact HB.out))):w.heap.size ≤ gb197));have n4_:=Aside0.mk ((by rw [hg];exact (below_size (by repeat (first | (with_reducible first | exact HB.out | apply below_alloc | apply pw_below_drewN | apply below_drew1 | refine below_set ?_ GE189.out) | exact HB.out))):w.heap.size ≤ gb197));have n5_:=Aside0.mk ((by rw [hg];exact Nat.ne_of_lt (blk_lt (g:=gb189) (o:=.cells #[.int .u64 a0_0,.int .u64 a0_1,.int .u64 a0_2,.slice A0_3 l0_3.length c0_3,.slice (some ad196) l0_4.length c0_4] 36 (0,0)) (by (with_reducible repeat (first | refine blk_drewN ?_ _ | refine blk_drew ?_ | refine blk_alloc ?_ _));exact BK189.out)):gb189 ≠ gb197));have n6_:=Aside0.mk ((by rw [hg];exact Nat.ne_of_gt (blk_lt (g:=gb189) (o:=.cells #[.int .u64 a0_0,.int .u64 a0_1,.int .u64 a0_2,.slice A0_3 l0_3.length c0_3,.slice (some ad196) l0_4.length c0_4] 36 (0,0)) (by (with_reducible repeat (first | refine blk_drewN ?_ _ | refine blk_drew ?_ | refine blk_alloc ?_ _));exact BK189.out)):gb197 ≠ gb189));clear BK189;clear HB;have BK189:=n0_;have HB:=n1_;have BK197:=n2_;have GW197:=n3_;have GE197:=n4_;have NB189_197:=n5_;have NB197_189:=n6_;clear n0_ n1_ n2_ n3_ n4_ n5_ n6_;clear hb hbox hg;have hnb46:=NB197_189.out;have hnc46:=NB189_197.out;have hcz47_0:w45.cell? ⟨gb197,0,none⟩ = some (.int .i64 0):=(blk_cell BK197.out 0).trans rfl;have hcz47_1:w45.cell? ⟨gb197,1,none⟩ = some (.int .u64 0):=(blk_cell BK197.out 1).trans rfl;have hfz47_0:=blk_frozen BK197.out 0;have hfz47_1:=blk_frozen BK197.out 1))
             go_ret
             exact ⟨by first | rfl | (simp [errW_none,errW_some] <;> rfl) | (simp [*,errW_none,errW_some] <;> rfl),by repeat (first | (with_reducible first | exact HB.out | apply below_alloc | apply pw_below_drewN | apply below_drew1 | refine below_set ?_ GE189.out | refine below_set ?_ GE197.out) | exact HB.out)⟩
            ·rw [if_neg c44] at H
             have c44b0:decide (((rd_T115 l0_4 x70_3).f0) < 0) = false:=decide_eq_false c44
             clear c44
             by_cases c48:((rd_T115 l0_4 x70_3).f0) > 3
             ·rw [if_pos c48] at H
              have c48b0:decide (3 < ((rd_T115 l0_4 x70_3).f0)) = true:=decide_eq_true c48
              clear c48
              obtain rfl:=Option.some.inj H
              have p196:0 ≤ (x70_3:Int):=of_decide_eq_true (by first | (with_reducible assumption) | assumption)
              have q196:x70_3 < (l0_4.length:Int):=of_decide_eq_true (by first | (with_reducible assumption) | assumption)
              obtain ⟨ad196,e196,hx196_0,hx196_1⟩:=at_T115 HR0_4.out x70_3 p196 q196
              cases e196
              replace hx196_0:=(HB.out.cell (World.block_lt_of_cell? w _ hx196_0)).trans hx196_0
              replace hx196_1:=(HB.out.cell (World.block_lt_of_cell? w _ hx196_1)).trans hx196_1
              replace p196:=eq_true p196
              replace q196:=eq_true q196
              go_wp2_with (first | ((with_reducible refine gate_dst (N:=8) rfl ?_);(try (refine gate_guard (by rfl) ?_;dsimp only));refine box_event ?hg (N:=8) ?hd (cs:=#[.int .i64 0,.int .u64 0]) (t:=115) ?hr ?_;(case hd=>rfl);(case hg=>rfl);(case hr=>first | (go_simp;done) | (go_simp;rfl));intro gb197 hg w49 hbox hb;have n0_:=Aside0.mk (blk_below (g:=gb189) (o:=.cells #[.int .u64 a0_0,.int .u64 a0_1,.int .u64 a0_2,.slice A0_3 l0_3.length c0_3,.slice (some ad196) l0_4.length c0_4] 36 (0,0)) (by (with_reducible repeat (first | refine blk_drewN ?_ _ | refine blk_drew ?_ | refine blk_alloc ?_ _));exact BK189.out) hb);have n1_:=Aside0.mk (below_step (by repeat (first | (with_reducible first | exact HB.out | apply below_alloc | apply pw_below_drewN | apply below_drew1 | refine below_set ?_ GE189.out) | exact HB.out)) hb);have n2_:=Aside0.mk (hbox);have n3_:=Aside0.mk ((by rw [hg];exact (below_size (by repeat (first | (with_reducible first | exact HB.out | apply below_alloc | apply pw_below_drewN | apply below_drew1 | refine below_set ?_ GE189.out) | exact HB.out))):w.heap.size ≤ gb197));have n4_:=Aside0.mk ((by rw [hg];exact (below_size (by repeat (first | (with_reducible first | exact HB.out | apply below_alloc | apply pw_below_drewN | apply below_drew1 | refine below_set ?_ GE189.out) | exact HB.out))):w.heap.size ≤ gb197));have n5_:=Aside0.mk ((by rw [hg];exact Nat.ne_of_lt (blk_lt (g:=gb189) (o:=.cells #[.int .u64 a0_0,.int .u64 a0_1,.int .u64 a0_2,.slice A0_3 l0_3.length c0_3,.slice (some ad196) l0_4.length c0_4] 36 (0,0)) (by (with_reducible repeat (first | refine blk_drewN ?_ _ | refine blk_drew ?_ | refine blk_alloc ?_ _));exact BK189.out)):gb189 ≠ gb197));have n6_:=Aside0.mk ((by rw [hg];exact Nat.ne_of_gt (blk_lt (g:=gb189) (o:=.cells #[.int .u64 a0_0,.int .u64 a0_1,.int .u64 a0_2,.slice A0_3 l0_3.length c0_3,.slice (some ad196) l0_4.length c0_4] 36 (0,0)) (by (with_reducible repeat (first | refine blk_drewN ?_ _ | refine blk_drew ?_ | refine blk_alloc ?_ _));exact BK189.out)):gb197 ≠ gb189));clear BK189;clear HB;have BK189:=n0_;have HB:=n1_;have BK197:=n2_;have GW197:=n3_;have GE197:=n4_;have NB189_197:=n5_;have NB197_189:=n6_;clear n0_ n1_ n2_ n3_ n4_ n5_ n6_;clear hb hbox hg;have hnb50:=NB197_189.out;have hnc50:=NB189_197.out;have hcz51_0:w49.cell? ⟨gb197,0,none⟩ = some (.int .i64 0):=(blk_cell BK197.out 0).trans rfl;have hcz51_1:w49.cell? ⟨gb197,1,none⟩ = some (.int .u64 0):=(blk_cell BK197.out 1).trans rfl;have hfz51_0:=blk_frozen BK197.out 0;have hfz51_1:=blk_frozen BK197.out 1))
              go_ret
              exact ⟨by first | rfl | (simp [errW_none,errW_some] <;> rfl) | (simp [*,errW_none,errW_some] <;> rfl),by repeat (first | (with_reducible first | exact HB.out | apply below_alloc | apply pw_below_drewN | apply below_drew1 | refine below_set ?_ GE189.out | refine below_set ?_ GE197.out) | exact HB.out)⟩
             ·rw [if_neg c48] at H
              have c48b0:decide (3 < ((rd_T115 l0_4 x70_3).f0)) = false:=decide_eq_false c48
              clear c48
              have H':=Aside0.mk H
              clear H
              have p196:0 ≤ (x70_3:Int):=of_decide_eq_true (by first | (with_reducible assumption) | assumption)
              have q196:x70_3 < (l0_4.length:Int):=of_decide_eq_true (by first | (with_reducible assumption) | assumption)
              obtain ⟨ad196,e196,hx196_0,hx196_1⟩:=at_T115 HR0_4.out x70_3 p196 q196
              cases e196
              replace hx196_0:=(HB.out.cell (World.block_lt_of_cell? w _ hx196_0)).trans hx196_0
              replace hx196_1:=(HB.out.cell (World.block_lt_of_cell? w _ hx196_1)).trans hx196_1
              replace p196:=eq_true p196
              replace q196:=eq_true q196
              go_wp2_with (first | ((with_reducible refine gate_dst (N:=8) rfl ?_);(try (refine gate_guard (by rfl) ?_;dsimp only));refine box_event ?hg (N:=8) ?hd (cs:=#[.int .i64 0,.int .u64 0]) (t:=115) ?hr ?_;(case hd=>rfl);(case hg=>rfl);(case hr=>first | (go_simp;done) | (go_simp;rfl));intro gb197 hg w52 hbox hb;have n0_:=Aside0.mk (blk_below (g:=gb189) (o:=.cells #[.int .u64 a0_0,.int .u64 a0_1,.int .u64 a0_2,.slice A0_3 l0_3.length c0_3,.slice (some ad196) l0_4.length c0_4] 36 (0,0)) (by (with_reducible repeat (first | refine blk_drewN ?_ _ | refine blk_drew ?_ | refine blk_alloc ?_ _));exact BK189.out) hb);have n1_:=Aside0.mk (below_step (by repeat (first | (with_reducible first | exact HB.out | apply below_alloc | apply pw_below_drewN | apply below_drew1 | refine below_set ?_ GE189.out) | exact HB.out)) hb);have n2_:=Aside0.mk (hbox);have n3_:=Aside0.mk ((by rw [hg];exact (below_size (by repeat (first | (with_reducible first | exact HB.out | apply below_alloc | apply pw_below_drewN | apply below_drew1 | refine below_set ?_ GE189.out) | exact HB.out))):w.heap.size ≤ gb197));have n4_:=Aside0.mk ((by rw [hg];exact (below_size (by repeat (first | (with_reducible first | exact HB.out | apply below_alloc | apply pw_below_drewN | apply below_drew1 | refine below_set ?_ GE189.out) | exact HB.out))):w.heap.size ≤ gb197));have n5_:=Aside0.mk ((by rw [hg];exact Nat.ne_of_lt (blk_lt (g:=gb189) (o:=.cells #[.int .u64 a0_0,.int .u64 a0_1,.int .u64 a0_2,.slice A0_3 l0_3.length c0_3,.slice (some ad196) l0_4.length c0_4] 36 (0,0)) (by (with_reducible repeat (first | refine blk_drewN ?_ _ | refine blk_drew ?_ | refine blk_alloc ?_ _));exact BK189.out)):gb189 ≠ gb197));have n6_:=Aside0.mk ((by rw [hg];exact Nat.ne_of_gt (blk_lt (g:=gb189) (o:=.cells #[.int .u64 a0_0,.int .u64 a0_1,.int .u64 a0_2,.slice A0_3 l0_3.length c0_3,.slice (some ad196) l0_4.length c0_4] 36 (0,0)) (by (with_reducible repeat (first | refine blk_drewN ?_ _ | refine blk_drew ?_ | refine blk_alloc ?_ _));exact BK189.out)):gb197 ≠ gb189));clear BK189;clear HB;have BK189:=n0_;have HB:=n1_;have BK197:=n2_;have GW197:=n3_;have GE197:=n4_;have NB189_197:=n5_;have NB197_189:=n6_;clear n0_ n1_ n2_ n3_ n4_ n5_ n6_;clear hb hbox hg;have hnb53:=NB197_189.out;have hnc53:=NB189_197.out;have hcz54_0:w52.cell? ⟨gb197,0,none⟩ = some (.int .i64 0):=(blk_cell BK197.out 0).trans rfl;have hcz54_1:w52.cell? ⟨gb197,1,none⟩ = some (.int .u64 0):=(blk_cell BK197.out 1).trans rfl;have hfz54_0:=blk_frozen BK197.out 0;have hfz54_1:=blk_frozen BK197.out 1))
              go_roundg k3
              case measure=>have:=HJ1.out;have:=HK2.out;have:=HK3.out;omega
              case rel=>exact ⟨(wrap64 (x70_3 + 1)),(by first | rfl | (simp;done) | (simp [*];done)),H',⟨by have:=HJ1.out;have:=HK2.out;have:=HK3.out;omega⟩,⟨by (with_reducible repeat (first | refine blk_drewN ?_ _ | refine blk_drew ?_ | refine blk_alloc ?_ _));refine blk_far ?_ NB189_197.out _;(with_reducible repeat (first | refine blk_drewN ?_ _ | refine blk_drew ?_ | refine blk_alloc ?_ _));refine blk_far ?_ NB189_197.out _;(with_reducible repeat (first | refine blk_drewN ?_ _ | refine blk_drew ?_ | refine blk_alloc ?_ _));exact BK189.out⟩,⟨by repeat (first | (with_reducible first | exact HB.out | apply below_alloc | apply pw_below_drewN | apply below_drew1 | refine below_set ?_ GE189.out | refine below_set ?_ GE197.out) | exact HB.out)⟩⟩
           ·rw [if_neg c43] at H
            exact absurd H (by simp)
          ·rw [if_neg c42] at H
           exact absurd H (by simp)
         ·rw [if_neg c41] at H
          have c41b0:decide (x70_3 < (l0_4.length:Int)) = false:=decide_eq_false c41
          clear c41
          obtain rfl:=Option.some.inj H
          go_wp2
          go_ret
          exact ⟨by first | rfl | (simp [errW_none,errW_some] <;> rfl) | (simp [*,errW_none,errW_some] <;> rfl),by repeat (first | (with_reducible first | exact HB.out | apply below_alloc | apply pw_below_drewN | apply below_drew1 | refine below_set ?_ GE189.out) | exact HB.out)⟩
end Go.Proofs.YteilnbnnhocciaaDoor.KV

/-! KV55 -/
namespace Go.Proofs.YteilnbnnhocciaaDoor.KV
open Go.RowKit Go.Proofs.YteilnbnnhocciaaDoorW.PrintWords Go.Proofs.YteilnbnnhocciaaDoorW.PrintLast Go.Proofs.YteilnbnnhocciaaDoorW.PrintMore Go.Proofs.YteilnbnnhocciaaDoorM
attribute [local go_sem] max2_int min2_int max_two min_two max_three min_three max_four min_four
mutual
def bourselaw12_To.l0:Nat → List (S107) → Int → Int → Int → Int → Int → List (S107) → List (S111) → Int → Int → Int → List (S114) → Option (Int × Int × Int × (List (S114)) × (List (S115)))
 | 0,_,_,_,_,_,_,_,_,_,_,_,_=>none
 | k + 1,x16,x17,x18,x207000,x207001,x207002,x207003,x207004,x209000,x209001,x209002,x209003=>if x18 < x17 then (if 0 ≤ x18 then (if x18 < (x16.length:Int) then (if x209003.length < 2199023255552 then (bourselaw12_To.l0 k x16 x17 (wrap64 (x18 + 1)) x207000 x207001 x207002 x207003 x207004 x209000 x209001 x209002 (x209003 ++ [(⟨(rd_T107 x16 x18).f0,(⟨(rd_T107 x16 x18).f1.f0,(rd_T107 x16 x18).f1.f1,(rd_T107 x16 x18).f1.f2,(rd_T107 x16 x18).f1.f3,(rd_T107 x16 x18).f1.f4⟩:S112)⟩:S114)])) else (none)) else (none)) else (none)) else (bourselaw12_To.l1 k x207004 (x207004.length:Int) 0 x209000 x209001 x209002 x209003 ([]:List (S115)))
def bourselaw12_To.l1:Nat → List (S111) → Int → Int → Int → Int → Int → List (S114) → List (S115) → Option (Int × Int × Int × (List (S114)) × (List (S115)))
 | 0,_,_,_,_,_,_,_,_=>none
 | k + 1,x34,x35,x36,x209000,x209001,x209002,x209003,x209004=>if x36 < x35 then (if 0 ≤ x36 then (if x36 < (x34.length:Int) then (if x209004.length < 8796093022208 then (bourselaw12_To.l1 k x34 x35 (wrap64 (x36 + 1)) x209000 x209001 x209002 x209003 (x209004 ++ [(⟨(rd_T111 x34 x36).f0,(rd_T111 x34 x36).f1⟩:S115)])) else (none)) else (none)) else (none)) else (some (x209000,x209001,x209002,x209003,x209004))
end
def bourselaw12_To.f (k:Nat) (a0_0:Int) (a0_1:Int) (a0_2:Int) (l0_3:List (S107)) (l0_4:List (S111)):Option (Int × Int × Int × (List (S114)) × (List (S115))):=bourselaw12_To.l0 k l0_3 (l0_3.length:Int) 0 a0_0 a0_1 a0_2 l0_3 l0_4 a0_0 a0_1 a0_2 ([]:List (S114))
set_option maxHeartbeats 8000000 in
set_option maxRecDepth 100000 in
theorem bourselaw12_To.calls (k:Nat) (a0_0:Int) (a0_1:Int) (a0_2:Int) (A0_3:Option Addr) (c0_3:Nat) (l0_3:List (S107)) (A0_4:Option Addr) (c0_4:Nat) (l0_4:List (S111)) (r1:Int) (r2:Int) (r3:Int) (r4:List (S114)) (r5:List (S115)) (w:World) (hr0_3:Kd.C k107 w A0_3 l0_3.length l0_3) (hc0_3:l0_3.length ≤ c0_3) (hr0_4:Kd.C k111 w A0_4 l0_4.length l0_4) (hc0_4:l0_4.length ≤ c0_4) (h:bourselaw12_To.f k a0_0 a0_1 a0_2 l0_3 l0_4 = some (r1,r2,r3,r4,r5)) :
  Calls Tryd.prog 16 #[.agg #[.int .u64 a0_0,.int .u64 a0_1,.int .u64 a0_2,.slice A0_3 l0_3.length c0_3,.slice A0_4 l0_4.length c0_4]] w fun e w'=>∃ v3_ v4_:Value,e = .returned (.agg #[.int .u64 r1,.int .u64 r2,.int .u64 r3,v3_,v4_]) ∧ Kd.R k114 114 w' w.heap.size (fun _=>True) v3_ r4 ∧ Kd.R k115 115 w' w.heap.size (fun _=>True) v4_ r5 ∧ Below w.heap.size w w':=by
 have hu26:=Tryd.underlying26
 have hu36:=Tryd.underlying36
 have hu107:=Tryd.underlying107
 have hu97:=Tryd.underlying97
 have hu114:=Tryd.underlying114
 have hu111:=Tryd.underlying111
 have HR0_3:=Aside0.mk hr0_3
 have HC0_3:=Aside0.mk hc0_3
 clear hr0_3 hc0_3
 have HR0_4:=Aside0.mk hr0_4
 have HC0_4:=Aside0.mk hc0_4
 clear hr0_4 hc0_4
 have HB:=Aside0.mk (Below.refl w.heap.size w)
 have H:(bourselaw12_To.l0 k l0_3 (l0_3.length:Int) 0 a0_0 a0_1 a0_2 l0_3 l0_4 a0_0 a0_1 a0_2 ([]:List (S114))) = some (r1,r2,r3,r4,r5):=h
 clear h
 have H':=Aside0.mk H
 clear H
 go_enter Tryd.func16,Tryd.ntmps16
 go_wp2_with (first | ((with_reducible refine gate_dst (N:=1) rfl ?_);refine box_event ?hg (N:=1) ?hd (cs:=#[.int .u64 a0_0,.int .u64 a0_1,.int .u64 a0_2,.slice A0_3 l0_3.length c0_3,.slice A0_4 l0_4.length c0_4]) (t:=26) ?hr ?_;(case hd=>rfl);(case hg=>rfl);(case hr=>first | (go_simp;done) | (go_simp;rfl));intro gb206 hg w2 hbox hb;have n0_:=Aside0.mk (below_step (by repeat (first | (with_reducible first | exact HB.out | apply below_alloc | apply pw_below_drewN | apply below_drew1) | exact HB.out)) hb);have n1_:=Aside0.mk (hbox);have n2_:=Aside0.mk ((by rw [hg];exact (below_size (by repeat (first | (with_reducible first | exact HB.out | apply below_alloc | apply pw_below_drewN | apply below_drew1) | exact HB.out))):w.heap.size ≤ gb206));have n3_:=Aside0.mk ((by rw [hg];exact (below_size (by repeat (first | (with_reducible first | exact HB.out | apply below_alloc | apply pw_below_drewN | apply below_drew1) | exact HB.out))):w.heap.size ≤ gb206));clear HB;have HB:=n0_;have BK206:=n1_;have GW206:=n2_;have GE206:=n3_;clear n0_ n1_ n2_ n3_;clear hb hbox hg) | ((with_reducible refine gate_dst (N:=2) rfl ?_);refine box_event ?hg (N:=2) ?hd (cs:=#[.int .u64 0,.int .u64 0,.int .u64 0,.slice none 0 0,.slice none 0 0]) (t:=36) ?hr ?_;(case hd=>rfl);(case hg=>rfl);(case hr=>first | (go_simp;done) | (go_simp;rfl));intro gb207 hg w3 hbox hb;have n0_:=Aside0.mk (blk_below (g:=gb206) (o:=.cells #[.int .u64 a0_0,.int .u64 a0_1,.int .u64 a0_2,.slice A0_3 l0_3.length c0_3,.slice A0_4 l0_4.length c0_4] 26 (0,0)) (by (with_reducible repeat (first | refine blk_drewN ?_ _ | refine blk_drew ?_ | refine blk_alloc ?_ _));exact BK206.out) hb);have n1_:=Aside0.mk (below_step (by repeat (first | (with_reducible first | exact HB.out | apply below_alloc | apply pw_below_drewN | apply below_drew1 | refine below_set ?_ GE206.out) | exact HB.out)) hb);have n2_:=Aside0.mk (hbox);have n3_:=Aside0.mk ((by rw [hg];exact (below_size (by repeat (first | (with_reducible first | exact HB.out | apply below_alloc | apply pw_below_drewN | apply below_drew1 | refine below_set ?_ GE206.out) | exact HB.out))):w.heap.size ≤ gb207));have n4_:=Aside0.mk ((by rw [hg];exact (below_size (by repeat (first | (with_reducible first | exact HB.out | apply below_alloc | apply pw_below_drewN | apply below_drew1 | refine below_set ?_ GE206.out) | exact HB.out))):w.heap.size ≤ gb207));have n5_:=Aside0.mk ((by rw [hg];exact Nat.ne_of_lt (blk_lt (g:=gb206) (o:=.cells #[.int .u64 a0_0,.int .u64 a0_1,.int .u64 a0_2,.slice A0_3 l0_3.length c0_3,.slice A0_4 l0_4.length c0_4] 26 (0,0)) (by (with_reducible repeat (first | refine blk_drewN ?_ _ | refine blk_drew ?_ | refine blk_alloc ?_ _));exact BK206.out)):gb206 ≠ gb207));have n6_:=Aside0.mk ((by rw [hg];exact Nat.ne_of_gt (blk_lt (g:=gb206) (o:=.cells #[.int .u64 a0_0,.int .u64 a0_1,.int .u64 a0_2,.slice A0_3 l0_3.length c0_3,.slice A0_4 l0_4.length c0_4] 26 (0,0)) (by (with_reducible repeat (first | refine blk_drewN ?_ _ | refine blk_drew ?_ | refine blk_alloc ?_ _));exact BK206.out)):gb207 ≠ gb206));clear BK206;clear HB;have BK206:=n0_;have HB:=n1_;have BK207:=n2_;have GW207:=n3_;have GE207:=n4_;have NB206_207:=n5_;have NB207_206:=n6_;clear n0_ n1_ n2_ n3_ n4_ n5_ n6_;clear hb hbox hg;have hnb4:=NB206_207.out;have hnc4:=NB207_206.out;have hcz5_0:w3.cell? ⟨gb206,0,none⟩ = some (.int .u64 a0_0):=(blk_cell BK206.out 0).trans rfl;have hcz5_1:w3.cell? ⟨gb206,1,none⟩ = some (.int .u64 a0_1):=(blk_cell BK206.out 1).trans rfl;have hcz5_2:w3.cell? ⟨gb206,2,none⟩ = some (.int .u64 a0_2):=(blk_cell BK206.out 2).trans rfl;have hcz5_3:w3.cell? ⟨gb206,3,none⟩ = some (.slice A0_3 l0_3.length c0_3):=(blk_cell BK206.out 3).trans rfl;have hcz5_4:w3.cell? ⟨gb206,4,none⟩ = some (.slice A0_4 l0_4.length c0_4):=(blk_cell BK206.out 4).trans rfl;have hfz5_0:=blk_frozen BK206.out 0;have hfz5_1:=blk_frozen BK206.out 1;have hfz5_2:=blk_frozen BK206.out 2;have hfz5_3:=blk_frozen BK206.out 3;have hfz5_4:=blk_frozen BK206.out 4) | ((with_reducible refine gate_dst (N:=3) rfl ?_);refine box_event ?hg (N:=3) ?hd (cs:=#[.int .u64 0,.int .u64 0,.int .u64 0,.slice none 0 0,.slice none 0 0]) (t:=36) ?hr ?_;(case hd=>rfl);(case hg=>rfl);(case hr=>first | (go_simp;done) | (go_simp;rfl));intro gb208 hg w6 hbox hb;have n0_:=Aside0.mk (blk_below (g:=gb206) (o:=.cells #[.int .u64 a0_0,.int .u64 a0_1,.int .u64 a0_2,.slice A0_3 l0_3.length c0_3,.slice A0_4 l0_4.length c0_4] 26 (0,0)) (by (with_reducible repeat (first | refine blk_drewN ?_ _ | refine blk_drew ?_ | refine blk_alloc ?_ _));exact BK206.out) hb);have n1_:=Aside0.mk (blk_below (g:=gb207) (o:=.cells #[.int .u64 0,.int .u64 0,.int .u64 0,.slice none 0 0,.slice none 0 0] 36 (0,0)) (by (with_reducible repeat (first | refine blk_drewN ?_ _ | refine blk_drew ?_ | refine blk_alloc ?_ _));exact BK207.out) hb);have n2_:=Aside0.mk (below_step (by repeat (first | (with_reducible first | exact HB.out | apply below_alloc | apply pw_below_drewN | apply below_drew1 | refine below_set ?_ GE206.out | refine below_set ?_ GE207.out) | exact HB.out)) hb);have n3_:=Aside0.mk (hbox);have n4_:=Aside0.mk ((by rw [hg];exact (below_size (by repeat (first | (with_reducible first | exact HB.out | apply below_alloc | apply pw_below_drewN | apply below_drew1 | refine below_set ?_ GE206.out | refine below_set ?_ GE207.out) | exact HB.out))):w.heap.size ≤ gb208));have n5_:=Aside0.mk ((by rw [hg];exact (below_size (by repeat (first | (with_reducible first | exact HB.out | apply below_alloc | apply pw_below_drewN | apply below_drew1 | refine below_set ?_ GE206.out | refine below_set ?_ GE207.out) | exact HB.out))):w.heap.size ≤ gb208));have n6_:=Aside0.mk ((by rw [hg];exact Nat.ne_of_lt (blk_lt (g:=gb206) (o:=.cells #[.int .u64 a0_0,.int .u64 a0_1,.int .u64 a0_2,.slice A0_3 l0_3.length c0_3,.slice A0_4 l0_4.length c0_4] 26 (0,0)) (by (with_reducible repeat (first | refine blk_drewN ?_ _ | refine blk_drew ?_ | refine blk_alloc ?_ _));exact BK206.out)):gb206 ≠ gb208));have n7_:=Aside0.mk ((by rw [hg];exact Nat.ne_of_gt (blk_lt (g:=gb206) (o:=.cells #[.int .u64 a0_0,.int .u64 a0_1,.int .u64 a0_2,.slice A0_3 l0_3.length c0_3,.slice A0_4 l0_4.length c0_4] 26 (0,0)) (by (with_reducible repeat (first | refine blk_drewN ?_ _ | refine blk_drew ?_ | refine blk_alloc ?_ _));exact BK206.out)):gb208 ≠ gb206));have n8_:=Aside0.mk ((by rw [hg];exact Nat.ne_of_lt (blk_lt (g:=gb207) (o:=.cells #[.int .u64 0,.int .u64 0,.int .u64 0,.slice none 0 0,.slice none 0 0] 36 (0,0)) (by (with_reducible repeat (first | refine blk_drewN ?_ _ | refine blk_drew ?_ | refine blk_alloc ?_ _));exact BK207.out)):gb207 ≠ gb208));have n9_:=Aside0.mk ((by rw [hg];exact Nat.ne_of_gt (blk_lt (g:=gb207) (o:=.cells #[.int .u64 0,.int .u64 0,.int .u64 0,.slice none 0 0,.slice none 0 0] 36 (0,0)) (by (with_reducible repeat (first | refine blk_drewN ?_ _ | refine blk_drew ?_ | refine blk_alloc ?_ _));exact BK207.out)):gb208 ≠ gb207));clear BK206;clear BK207;clear HB;have BK206:=n0_;have BK207:=n1_;have HB:=n2_;have BK208:=n3_;have GW208:=n4_;have GE208:=n5_;have NB206_208:=n6_;have NB208_206:=n7_;have NB207_208:=n8_;have NB208_207:=n9_;clear n0_ n1_ n2_ n3_ n4_ n5_ n6_ n7_ n8_ n9_;clear hb hbox hg;have hnb7:=NB208_206.out;have hnc7:=NB206_208.out;have hnb8:=NB208_207.out;have hnc8:=NB207_208.out;have hcz9_0:w6.cell? ⟨gb208,0,none⟩ = some (.int .u64 0):=(blk_cell BK208.out 0).trans rfl;have hcz9_1:w6.cell? ⟨gb208,1,none⟩ = some (.int .u64 0):=(blk_cell BK208.out 1).trans rfl;have hcz9_2:w6.cell? ⟨gb208,2,none⟩ = some (.int .u64 0):=(blk_cell BK208.out 2).trans rfl;have hcz9_3:w6.cell? ⟨gb208,3,none⟩ = some (.slice none 0 0):=(blk_cell BK208.out 3).trans rfl;have hcz9_4:w6.cell? ⟨gb208,4,none⟩ = some (.slice none 0 0):=(blk_cell BK208.out 4).trans rfl;have hfz9_0:=blk_frozen BK208.out 0;have hfz9_1:=blk_frozen BK208.out 1;have hfz9_2:=blk_frozen BK208.out 2;have hfz9_3:=blk_frozen BK208.out 3;have hfz9_4:=blk_frozen BK208.out 4;have hcz10_0:w6.cell? ⟨gb206,0,none⟩ = some (.int .u64 a0_0):=(blk_cell BK206.out 0).trans rfl;have hcz10_1:w6.cell? ⟨gb206,1,none⟩ = some (.int .u64 a0_1):=(blk_cell BK206.out 1).trans rfl;have hcz10_2:w6.cell? ⟨gb206,2,none⟩ = some (.int .u64 a0_2):=(blk_cell BK206.out 2).trans rfl;have hcz10_3:w6.cell? ⟨gb206,3,none⟩ = some (.slice A0_3 l0_3.length c0_3):=(blk_cell BK206.out 3).trans rfl;have hcz10_4:w6.cell? ⟨gb206,4,none⟩ = some (.slice A0_4 l0_4.length c0_4):=(blk_cell BK206.out 4).trans rfl;have hfz10_0:=blk_frozen BK206.out 0;have hfz10_1:=blk_frozen BK206.out 1;have hfz10_2:=blk_frozen BK206.out 2;have hfz10_3:=blk_frozen BK206.out 3;have hfz10_4:=blk_frozen BK206.out 4))
 go_loopg [18] k (fun kq v18 w'=>∃ (x18_1:Int) (x209003_1:List (S114)) (u209003:Value),v18 = .int .i64 x18_1 ∧ Aside0 (bourselaw12_To.l0 kq l0_3 (l0_3.length:Int) x18_1 a0_0 a0_1 a0_2 l0_3 l0_4 a0_0 a0_1 a0_2 x209003_1 = some (r1,r2,r3,r4,r5)) ∧ Aside0 (kq ≤ k) ∧ Aside0 (Kd.R k114 114 w' w.heap.size (fun _=>True) u209003 x209003_1) ∧ Aside0 (w'.heap[gb206]? = some (.cells #[.int .u64 a0_0,.int .u64 a0_1,.int .u64 a0_2,(.slice A0_3 l0_3.length c0_3),(.slice A0_4 l0_4.length c0_4)] 26 (0,0))) ∧ Aside0 (w'.heap[gb207]? = some (.cells #[.int .u64 0,.int .u64 0,.int .u64 0,(.slice none 0 0),(.slice none 0 0)] 36 (0,0))) ∧ Aside0 (w'.heap[gb208]? = some (.cells #[.int .u64 a0_0,.int .u64 a0_1,.int .u64 a0_2,u209003,(.slice none 0 0)] 36 (0,0))) ∧ Aside0 (Below w.heap.size w w'))
 case atStart=>exact ⟨(0),(([]:List (S114))),(.slice none 0 0),(by first | rfl | (simp;done) | (simp [*];done)),H',⟨Nat.le_refl _⟩,⟨by first | exact Kd.R_nil _ _ _ _ _ | exact Kd.N_nil _ _ _ _ _ | exact Kd.V_nil _ _ _ _ _ | exact Kd.Q_nil _ _ _ _ _ | exact Kd.S_nil _ _ _ _ _⟩,⟨by (with_reducible repeat (first | refine blk_drewN ?_ _ | refine blk_drew ?_ | refine blk_alloc ?_ _));refine blk_far ?_ NB206_208.out _;(with_reducible repeat (first | refine blk_drewN ?_ _ | refine blk_drew ?_ | refine blk_alloc ?_ _));refine blk_far ?_ NB206_208.out _;(with_reducible repeat (first | refine blk_drewN ?_ _ | refine blk_drew ?_ | refine blk_alloc ?_ _));refine blk_far ?_ NB206_208.out _;(with_reducible repeat (first | refine blk_drewN ?_ _ | refine blk_drew ?_ | refine blk_alloc ?_ _));refine blk_far ?_ NB206_208.out _;(with_reducible repeat (first | refine blk_drewN ?_ _ | refine blk_drew ?_ | refine blk_alloc ?_ _));refine blk_far ?_ NB206_208.out _;(with_reducible repeat (first | refine blk_drewN ?_ _ | refine blk_drew ?_ | refine blk_alloc ?_ _));exact BK206.out⟩,⟨by (with_reducible repeat (first | refine blk_drewN ?_ _ | refine blk_drew ?_ | refine blk_alloc ?_ _));refine blk_far ?_ NB207_208.out _;(with_reducible repeat (first | refine blk_drewN ?_ _ | refine blk_drew ?_ | refine blk_alloc ?_ _));refine blk_far ?_ NB207_208.out _;(with_reducible repeat (first | refine blk_drewN ?_ _ | refine blk_drew ?_ | refine blk_alloc ?_ _));refine blk_far ?_ NB207_208.out _;(with_reducible repeat (first | refine blk_drewN ?_ _ | refine blk_drew ?_ | refine blk_alloc ?_ _));refine blk_far ?_ NB207_208.out _;(with_reducible repeat (first | refine blk_drewN ?_ _ | refine blk_drew ?_ | refine blk_alloc ?_ _));refine blk_far ?_ NB207_208.out _;(with_reducible repeat (first | refine blk_drewN ?_ _ | refine blk_drew ?_ | refine blk_alloc ?_ _));exact BK207.out⟩,⟨by (with_reducible repeat (first | refine blk_drewN ?_ _ | refine blk_drew ?_ | refine blk_alloc ?_ _));refine blk_put (cs:=#[.int .u64 a0_0,.int .u64 a0_1,.int .u64 a0_2,.slice none 0 0,.slice none 0 0]) ?_ 4 _ rfl;(with_reducible repeat (first | refine blk_drewN ?_ _ | refine blk_drew ?_ | refine blk_alloc ?_ _));refine blk_put (cs:=#[.int .u64 a0_0,.int .u64 a0_1,.int .u64 a0_2,.slice none 0 0,.slice none 0 0]) ?_ 3 _ rfl;(with_reducible repeat (first | refine blk_drewN ?_ _ | refine blk_drew ?_ | refine blk_alloc ?_ _));refine blk_put (cs:=#[.int .u64 a0_0,.int .u64 a0_1,.int .u64 0,.slice none 0 0,.slice none 0 0]) ?_ 2 _ rfl;(with_reducible repeat (first | refine blk_drewN ?_ _ | refine blk_drew ?_ | refine blk_alloc ?_ _));refine blk_put (cs:=#[.int .u64 a0_0,.int .u64 0,.int .u64 0,.slice none 0 0,.slice none 0 0]) ?_ 1 _ rfl;(with_reducible repeat (first | refine blk_drewN ?_ _ | refine blk_drew ?_ | refine blk_alloc ?_ _));refine blk_put (cs:=#[.int .u64 0,.int .u64 0,.int .u64 0,.slice none 0 0,.slice none 0 0]) ?_ 0 _ rfl;(with_reducible repeat (first | refine blk_drewN ?_ _ | refine blk_drew ?_ | refine blk_alloc ?_ _));exact BK208.out⟩,⟨by repeat (first | (with_reducible first | exact HB.out | apply below_alloc | apply pw_below_drewN | apply below_drew1 | refine below_set ?_ GE206.out | refine below_set ?_ GE207.out | refine below_set ?_ GE208.out) | exact HB.out)⟩⟩
 case round=>
  clear H'
  try clear c1
  try clear p2
  try clear c4
  try clear c7
  try clear c8
  try clear hcz10_0
  try clear hcz10_1
  try clear hcz10_2
  try clear hcz10_3
  try clear hcz10_4
  try clear hcz5_0
  try clear hcz5_1
  try clear hcz5_2
  try clear hcz5_3
  try clear hcz5_4
  try clear hcz9_0
  try clear hcz9_1
  try clear hcz9_2
  try clear hcz9_3
  try clear hcz9_4
  try clear hfz10_0
  try clear hfz10_1
  try clear hfz10_2
  try clear hfz10_3
  try clear hfz10_4
  try clear hfz5_0
  try clear hfz5_1
  try clear hfz5_2
  try clear hfz5_3
  try clear hfz5_4
  try clear hfz9_0
  try clear hfz9_1
  try clear hfz9_2
  try clear hfz9_3
  try clear hfz9_4
  obtain ⟨x18_1,x209003_1,u209003,rfl,HA,HK1,HO_209003,BK206,BK207,BK208,HB⟩:=hrel
  cases gk with
  | zero=>exact absurd HA.out (by simp [bourselaw12_To.l0])
  | succ k1=>
   have H:=HA.out
   clear HA
   simp only [bourselaw12_To.l0] at H
   by_cases c11:x18_1 < (l0_3.length:Int)
   ·rw [if_pos c11] at H
    have c11b0:decide (x18_1 < (l0_3.length:Int)) = true:=decide_eq_true c11
    clear c11
    by_cases c12:0 ≤ x18_1
    ·rw [if_pos c12] at H
     have c12b0:decide (0 ≤ x18_1) = true:=decide_eq_true c12
     clear c12
     by_cases c13:x18_1 < (l0_3.length:Int)
     ·rw [if_pos c13] at H
      have c13b0:decide (x18_1 < (l0_3.length:Int)) = true:=decide_eq_true c13
      clear c13
      by_cases c14:x209003_1.length < 2199023255552
      ·rw [if_pos c14] at H
       have LMc14:=Aside0.mk c14
       clear c14
       obtain ⟨y211,hy211⟩:∃ y_:List (S114),y_ = (x209003_1 ++ [(⟨(rd_T107 l0_3 x18_1).f0,(⟨(rd_T107 l0_3 x18_1).f1.f0,(rd_T107 l0_3 x18_1).f1.f1,(rd_T107 l0_3 x18_1).f1.f2,(rd_T107 l0_3 x18_1).f1.f3,(rd_T107 l0_3 x18_1).f1.f4⟩:S112)⟩:S114)]):=⟨_,rfl⟩
       replace H:(bourselaw12_To.l0 k1 l0_3 (l0_3.length:Int) (wrap64 (x18_1 + 1)) a0_0 a0_1 a0_2 l0_3 l0_4 a0_0 a0_1 a0_2 y211) = some (r1,r2,r3,r4,r5):=by first | (rw [hy211];with_reducible exact H) | (have H2_:=(Option.bind_some _ _).symm.trans H;rw [hy211];with_reducible exact H2_) | (have H2_:=(Option.bind_some _ _).symm.trans H;with_reducible exact H2_) | with_reducible exact H | (rw [hy211];exact H) | exact H
       have Ny211:=Aside0.mk hy211
       clear hy211
       have H':=Aside0.mk H
       clear H
       have p209:0 ≤ (x18_1:Int):=of_decide_eq_true (by first | (with_reducible assumption) | assumption)
       have q209:x18_1 < (l0_3.length:Int):=of_decide_eq_true (by first | (with_reducible assumption) | assumption)
       obtain ⟨ad209,e209,hx209_0,hx209_1,hx209_2,hx209_3,hx209_4,hx209_5⟩:=at_T107 HR0_3.out x18_1 p209 q209
       cases e209
       replace hx209_0:=(HB.out.cell (World.block_lt_of_cell? w _ hx209_0)).trans hx209_0
       replace hx209_1:=(HB.out.cell (World.block_lt_of_cell? w _ hx209_1)).trans hx209_1
       replace hx209_2:=(HB.out.cell (World.block_lt_of_cell? w _ hx209_2)).trans hx209_2
       replace hx209_3:=(HB.out.cell (World.block_lt_of_cell? w _ hx209_3)).trans hx209_3
       replace hx209_4:=(HB.out.cell (World.block_lt_of_cell? w _ hx209_4)).trans hx209_4
       replace hx209_5:=(HB.out.cell (World.block_lt_of_cell? w _ hx209_5)).trans hx209_5
       replace p209:=eq_true p209
       replace q209:=eq_true q209
       go_wp2_with (first | ((with_reducible refine gate_dst (N:=5) rfl ?_);refine box_event ?hg (N:=5) ?hd (cs:=#[.int .i64 0,.int .u64 0,.int .u64 0,.int .u64 0,.string (⟨#[]⟩:ByteArray),.string (⟨#[]⟩:ByteArray)]) (t:=107) ?hr ?_;(case hd=>rfl);(case hg=>rfl);(case hr=>first | (go_simp;done) | (go_simp;rfl));intro gb210 hg w15 hbox hb;have n0_:=Aside0.mk (Kd.R_below (by (with_reducible repeat (first | apply Kd.R_alloc | apply Kd.R_drewN | apply Kd.R_drew));exact HO_209003.out) hb);have n1_:=Aside0.mk (blk_below (g:=gb206) (o:=.cells #[.int .u64 a0_0,.int .u64 a0_1,.int .u64 a0_2,.slice (some ad209) l0_3.length c0_3,.slice A0_4 l0_4.length c0_4] 26 (0,0)) (by (with_reducible repeat (first | refine blk_drewN ?_ _ | refine blk_drew ?_ | refine blk_alloc ?_ _));exact BK206.out) hb);have n2_:=Aside0.mk (blk_below (g:=gb207) (o:=.cells #[.int .u64 0,.int .u64 0,.int .u64 0,.slice none 0 0,.slice none 0 0] 36 (0,0)) (by (with_reducible repeat (first | refine blk_drewN ?_ _ | refine blk_drew ?_ | refine blk_alloc ?_ _));exact BK207.out) hb);have n3_:=Aside0.mk (blk_below (g:=gb208) (o:=.cells #[.int .u64 a0_0,.int .u64 a0_1,.int .u64 a0_2,u209003,.slice none 0 0] 36 (0,0)) (by (with_reducible repeat (first | refine blk_drewN ?_ _ | refine blk_drew ?_ | refine blk_alloc ?_ _));exact BK208.out) hb);have n4_:=Aside0.mk (below_step (by repeat (first | (with_reducible first | exact HB.out | apply below_alloc | apply pw_below_drewN | apply below_drew1 | refine below_set ?_ GE206.out | refine below_set ?_ GE207.out | refine below_set ?_ GE208.out) | exact HB.out)) hb);have n5_:=Aside0.mk (hbox);have n6_:=Aside0.mk ((by rw [hg];exact (below_size (by repeat (first | (with_reducible first | exact HB.out | apply below_alloc | apply pw_below_drewN | apply below_drew1 | refine below_set ?_ GE206.out | refine below_set ?_ GE207.out | refine below_set ?_ GE208.out) | exact HB.out))):w.heap.size ≤ gb210));have n7_:=Aside0.mk ((by rw [hg];exact (below_size (by repeat (first | (with_reducible first | exact HB.out | apply below_alloc | apply pw_below_drewN | apply below_drew1 | refine below_set ?_ GE206.out | refine below_set ?_ GE207.out | refine below_set ?_ GE208.out) | exact HB.out))):w.heap.size ≤ gb210));have n8_:=Aside0.mk ((by rw [hg];exact Nat.ne_of_lt (blk_lt (g:=gb206) (o:=.cells #[.int .u64 a0_0,.int .u64 a0_1,.int .u64 a0_2,.slice (some ad209) l0_3.length c0_3,.slice A0_4 l0_4.length c0_4] 26 (0,0)) (by (with_reducible repeat (first | refine blk_drewN ?_ _ | refine blk_drew ?_ | refine blk_alloc ?_ _));exact BK206.out)):gb206 ≠ gb210));have n9_:=Aside0.mk ((by rw [hg];exact Nat.ne_of_gt (blk_lt (g:=gb206) (o:=.cells #[.int .u64 a0_0,.int .u64 a0_1,.int .u64 a0_2,.slice (some ad209) l0_3.length c0_3,.slice A0_4 l0_4.length c0_4] 26 (0,0)) (by (with_reducible repeat (first | refine blk_drewN ?_ _ | refine blk_drew ?_ | refine blk_alloc ?_ _));exact BK206.out)):gb210 ≠ gb206));have n10_:=Aside0.mk ((by rw [hg];exact Nat.ne_of_lt (blk_lt (g:=gb207) (o:=.cells #[.int .u64 0,.int .u64 0,.int .u64 0,.slice none 0 0,.slice none 0 0] 36 (0,0)) (by (with_reducible repeat (first | refine blk_drewN ?_ _ | refine blk_drew ?_ | refine blk_alloc ?_ _));exact BK207.out)):gb207 ≠ gb210));have n11_:=Aside0.mk ((by rw [hg];exact Nat.ne_of_gt (blk_lt (g:=gb207) (o:=.cells #[.int .u64 0,.int .u64 0,.int .u64 0,.slice none 0 0,.slice none 0 0] 36 (0,0)) (by (with_reducible repeat (first | refine blk_drewN ?_ _ | refine blk_drew ?_ | refine blk_alloc ?_ _));exact BK207.out)):gb210 ≠ gb207));have n12_:=Aside0.mk ((by rw [hg];exact Nat.ne_of_lt (blk_lt (g:=gb208) (o:=.cells #[.int .u64 a0_0,.int .u64 a0_1,.int .u64 a0_2,u209003,.slice none 0 0] 36 (0,0)) (by (with_reducible repeat (first | refine blk_drewN ?_ _ | refine blk_drew ?_ | refine blk_alloc ?_ _));exact BK208.out)):gb208 ≠ gb210));have n13_:=Aside0.mk ((by rw [hg];exact Nat.ne_of_gt (blk_lt (g:=gb208) (o:=.cells #[.int .u64 a0_0,.int .u64 a0_1,.int .u64 a0_2,u209003,.slice none 0 0] 36 (0,0)) (by (with_reducible repeat (first | refine blk_drewN ?_ _ | refine blk_drew ?_ | refine blk_alloc ?_ _));exact BK208.out)):gb210 ≠ gb208));clear HO_209003;clear BK206;clear BK207;clear BK208;clear HB;have HO_209003:=n0_;have BK206:=n1_;have BK207:=n2_;have BK208:=n3_;have HB:=n4_;have BK210:=n5_;have GW210:=n6_;have GE210:=n7_;have NB206_210:=n8_;have NB210_206:=n9_;have NB207_210:=n10_;have NB210_207:=n11_;have NB208_210:=n12_;have NB210_208:=n13_;clear n0_ n1_ n2_ n3_ n4_ n5_ n6_ n7_ n8_ n9_ n10_ n11_ n12_ n13_;clear hb hbox hg;have hnb16:=NB210_206.out;have hnc16:=NB206_210.out;have hnb17:=NB210_207.out;have hnc17:=NB207_210.out;have hnb18:=NB210_208.out;have hnc18:=NB208_210.out;have hcz19_0:w15.cell? ⟨gb210,0,none⟩ = some (.int .i64 0):=(blk_cell BK210.out 0).trans rfl;have hcz19_1:w15.cell? ⟨gb210,1,none⟩ = some (.int .u64 0):=(blk_cell BK210.out 1).trans rfl;have hcz19_2:w15.cell? ⟨gb210,2,none⟩ = some (.int .u64 0):=(blk_cell BK210.out 2).trans rfl;have hcz19_3:w15.cell? ⟨gb210,3,none⟩ = some (.int .u64 0):=(blk_cell BK210.out 3).trans rfl;have hcz19_4:w15.cell? ⟨gb210,4,none⟩ = some (.string (⟨#[]⟩:ByteArray)):=(blk_cell BK210.out 4).trans rfl;have hcz19_5:w15.cell? ⟨gb210,5,none⟩ = some (.string (⟨#[]⟩:ByteArray)):=(blk_cell BK210.out 5).trans rfl;have hfz19_0:=blk_frozen BK210.out 0;have hfz19_1:=blk_frozen BK210.out 1;have hfz19_2:=blk_frozen BK210.out 2;have hfz19_3:=blk_frozen BK210.out 3;have hfz19_4:=blk_frozen BK210.out 4;have hfz19_5:=blk_frozen BK210.out 5;have hnb20:=NB208_206.out;have hnc20:=NB206_208.out;have hnb21:=NB208_207.out;have hnc21:=NB207_208.out;have hcz22_0:w15.cell? ⟨gb208,0,none⟩ = some (.int .u64 a0_0):=(blk_cell BK208.out 0).trans rfl;have hcz22_1:w15.cell? ⟨gb208,1,none⟩ = some (.int .u64 a0_1):=(blk_cell BK208.out 1).trans rfl;have hcz22_2:w15.cell? ⟨gb208,2,none⟩ = some (.int .u64 a0_2):=(blk_cell BK208.out 2).trans rfl;have hcz22_3:w15.cell? ⟨gb208,3,none⟩ = some (u209003):=(blk_cell BK208.out 3).trans rfl;have hcz22_4:w15.cell? ⟨gb208,4,none⟩ = some (.slice none 0 0):=(blk_cell BK208.out 4).trans rfl;have hfz22_0:=blk_frozen BK208.out 0;have hfz22_1:=blk_frozen BK208.out 1;have hfz22_2:=blk_frozen BK208.out 2;have hfz22_3:=blk_frozen BK208.out 3;have hfz22_4:=blk_frozen BK208.out 4) | ((with_reducible refine gate_builtin (b:=.append) (xs:=#[.tmp 23,.tmp 29]) rfl ?_);at_builtin;refine Kd.R_append k114 (w0:=w) w.heap.size rfl (.tmp 23) (.tmp 29) 33 114 (.agg #[(.int .i64 0),(.int .u64 0),(.int .u64 0),(.int .u64 0),(.string ⟨#[]⟩),(.string ⟨#[]⟩)]) 64 rfl Tryd.underlying33 info114 rfl (by decide) (by omega) u209003 x209003_1 (⟨(rd_T107 l0_3 x18_1).f0,(⟨(rd_T107 l0_3 x18_1).f1.f0,(rd_T107 l0_3 x18_1).f1.f1,(rd_T107 l0_3 x18_1).f1.f2,(rd_T107 l0_3 x18_1).f1.f3,(rd_T107 l0_3 x18_1).f1.f4⟩:S112)⟩:S114) [.int .i64 ((rd_T107 l0_3 x18_1).f0),.int .u64 ((rd_T107 l0_3 x18_1).f1.f0),.int .u64 ((rd_T107 l0_3 x18_1).f1.f1),.int .u64 ((rd_T107 l0_3 x18_1).f1.f2),.string ((rd_T107 l0_3 x18_1).f1.f3),.string ((rd_T107 l0_3 x18_1).f1.f4)] (fun _=>True) (fun _=>False) rfl (by first | (go_simp;done) | (go_simp;rfl)) ?aP (fun _ hk=>hk.elim) ?aF ?aO ?aB ?aS ?aL ?_;(case aP=>exact k114_mkM _ _ _ (⟨(rd_T107 l0_3 x18_1).f0,(⟨(rd_T107 l0_3 x18_1).f1.f0,(rd_T107 l0_3 x18_1).f1.f1,(rd_T107 l0_3 x18_1).f1.f2,(rd_T107 l0_3 x18_1).f1.f3,(rd_T107 l0_3 x18_1).f1.f4⟩:S112)⟩:S114));(case aB=>exact (by repeat (first | (with_reducible first | exact HB.out | apply below_alloc | apply pw_below_drewN | apply below_drew1 | refine below_set ?_ GE206.out | refine below_set ?_ GE207.out | refine below_set ?_ GE208.out | refine below_set ?_ GE210.out) | exact HB.out)));(case aF=>exact (fun _ _=>trivial));(case aO=>exact (by (with_reducible repeat (first | apply Kd.R_alloc | apply Kd.R_drewN | apply Kd.R_drew));exact Kd.R_mono (Kd.R_far (p:=⟨gb210,5,none⟩) (Kd.R_far (p:=⟨gb210,4,none⟩) (Kd.R_far (p:=⟨gb210,3,none⟩) (Kd.R_far (p:=⟨gb210,2,none⟩) (Kd.R_far (p:=⟨gb210,1,none⟩) (Kd.R_far (p:=⟨gb210,0,none⟩) (Kd.R_types HO_209003.out BK210.out (by decide)) (fun _ hk=>hk.2) (.int .i64 ((rd_T107 l0_3 x18_1).f0))) (fun _ hk=>hk.2) (.int .u64 ((rd_T107 l0_3 x18_1).f1.f0))) (fun _ hk=>hk.2) (.int .u64 ((rd_T107 l0_3 x18_1).f1.f1))) (fun _ hk=>hk.2) (.int .u64 ((rd_T107 l0_3 x18_1).f1.f2))) (fun _ hk=>hk.2) (.string ((rd_T107 l0_3 x18_1).f1.f3))) (fun _ hk=>hk.2) (.string ((rd_T107 l0_3 x18_1).f1.f4))) (fun _ hk=>trivial)));(case aS=>exact (below_size (by repeat (first | (with_reducible first | exact HB.out | apply below_alloc | apply pw_below_drewN | apply below_drew1 | refine below_set ?_ GE206.out | refine below_set ?_ GE207.out | refine below_set ?_ GE208.out | refine below_set ?_ GE210.out) | exact HB.out))));(case aL=>have:=LMc14.out;omega);intro v212 w23 ho hb hg hat;rw [← Ny211.out] at ho;have n0_:=Aside0.mk (blk_grown (g:=gb206) (o:=.cells #[.int .u64 a0_0,.int .u64 a0_1,.int .u64 a0_2,.slice (some ad209) l0_3.length c0_3,.slice A0_4 l0_4.length c0_4] 26 (0,0)) (by (with_reducible repeat (first | refine blk_drewN ?_ _ | refine blk_drew ?_ | refine blk_alloc ?_ _));refine blk_far ?_ NB206_210.out _;(with_reducible repeat (first | refine blk_drewN ?_ _ | refine blk_drew ?_ | refine blk_alloc ?_ _));refine blk_far ?_ NB206_210.out _;(with_reducible repeat (first | refine blk_drewN ?_ _ | refine blk_drew ?_ | refine blk_alloc ?_ _));refine blk_far ?_ NB206_210.out _;(with_reducible repeat (first | refine blk_drewN ?_ _ | refine blk_drew ?_ | refine blk_alloc ?_ _));refine blk_far ?_ NB206_210.out _;(with_reducible repeat (first | refine blk_drewN ?_ _ | refine blk_drew ?_ | refine blk_alloc ?_ _));refine blk_far ?_ NB206_210.out _;(with_reducible repeat (first | refine blk_drewN ?_ _ | refine blk_drew ?_ | refine blk_alloc ?_ _));refine blk_far ?_ NB206_210.out _;(with_reducible repeat (first | refine blk_drewN ?_ _ | refine blk_drew ?_ | refine blk_alloc ?_ _));exact BK206.out) hg (Kd.R_ne HO_209003.out BK206.out (by decide)));have n1_:=Aside0.mk (blk_grown (g:=gb207) (o:=.cells #[.int .u64 0,.int .u64 0,.int .u64 0,.slice none 0 0,.slice none 0 0] 36 (0,0)) (by (with_reducible repeat (first | refine blk_drewN ?_ _ | refine blk_drew ?_ | refine blk_alloc ?_ _));refine blk_far ?_ NB207_210.out _;(with_reducible repeat (first | refine blk_drewN ?_ _ | refine blk_drew ?_ | refine blk_alloc ?_ _));refine blk_far ?_ NB207_210.out _;(with_reducible repeat (first | refine blk_drewN ?_ _ | refine blk_drew ?_ | refine blk_alloc ?_ _));refine blk_far ?_ NB207_210.out _;(with_reducible repeat (first | refine blk_drewN ?_ _ | refine blk_drew ?_ | refine blk_alloc ?_ _));refine blk_far ?_ NB207_210.out _;(with_reducible repeat (first | refine blk_drewN ?_ _ | refine blk_drew ?_ | refine blk_alloc ?_ _));refine blk_far ?_ NB207_210.out _;(with_reducible repeat (first | refine blk_drewN ?_ _ | refine blk_drew ?_ | refine blk_alloc ?_ _));refine blk_far ?_ NB207_210.out _;(with_reducible repeat (first | refine blk_drewN ?_ _ | refine blk_drew ?_ | refine blk_alloc ?_ _));exact BK207.out) hg (Kd.R_ne HO_209003.out BK207.out (by decide)));have n2_:=Aside0.mk (blk_grown (g:=gb208) (o:=.cells #[.int .u64 a0_0,.int .u64 a0_1,.int .u64 a0_2,u209003,.slice none 0 0] 36 (0,0)) (by (with_reducible repeat (first | refine blk_drewN ?_ _ | refine blk_drew ?_ | refine blk_alloc ?_ _));refine blk_far ?_ NB208_210.out _;(with_reducible repeat (first | refine blk_drewN ?_ _ | refine blk_drew ?_ | refine blk_alloc ?_ _));refine blk_far ?_ NB208_210.out _;(with_reducible repeat (first | refine blk_drewN ?_ _ | refine blk_drew ?_ | refine blk_alloc ?_ _));refine blk_far ?_ NB208_210.out _;(with_reducible repeat (first | refine blk_drewN ?_ _ | refine blk_drew ?_ | refine blk_alloc ?_ _));refine blk_far ?_ NB208_210.out _;(with_reducible repeat (first | refine blk_drewN ?_ _ | refine blk_drew ?_ | refine blk_alloc ?_ _));refine blk_far ?_ NB208_210.out _;(with_reducible repeat (first | refine blk_drewN ?_ _ | refine blk_drew ?_ | refine blk_alloc ?_ _));refine blk_far ?_ NB208_210.out _;(with_reducible repeat (first | refine blk_drewN ?_ _ | refine blk_drew ?_ | refine blk_alloc ?_ _));exact BK208.out) hg (Kd.R_ne HO_209003.out BK208.out (by decide)));have n3_:=Aside0.mk (blk_grown (g:=gb210) (o:=.cells #[.int .i64 ((rd_T107 l0_3 x18_1).f0),.int .u64 ((rd_T107 l0_3 x18_1).f1.f0),.int .u64 ((rd_T107 l0_3 x18_1).f1.f1),.int .u64 ((rd_T107 l0_3 x18_1).f1.f2),.string ((rd_T107 l0_3 x18_1).f1.f3),.string ((rd_T107 l0_3 x18_1).f1.f4)] 107 (0,0)) (by (with_reducible repeat (first | refine blk_drewN ?_ _ | refine blk_drew ?_ | refine blk_alloc ?_ _));refine blk_put (cs:=#[.int .i64 ((rd_T107 l0_3 x18_1).f0),.int .u64 ((rd_T107 l0_3 x18_1).f1.f0),.int .u64 ((rd_T107 l0_3 x18_1).f1.f1),.int .u64 ((rd_T107 l0_3 x18_1).f1.f2),.string ((rd_T107 l0_3 x18_1).f1.f3),.string (⟨#[]⟩:ByteArray)]) ?_ 5 _ rfl;(with_reducible repeat (first | refine blk_drewN ?_ _ | refine blk_drew ?_ | refine blk_alloc ?_ _));refine blk_put (cs:=#[.int .i64 ((rd_T107 l0_3 x18_1).f0),.int .u64 ((rd_T107 l0_3 x18_1).f1.f0),.int .u64 ((rd_T107 l0_3 x18_1).f1.f1),.int .u64 ((rd_T107 l0_3 x18_1).f1.f2),.string (⟨#[]⟩:ByteArray),.string (⟨#[]⟩:ByteArray)]) ?_ 4 _ rfl;(with_reducible repeat (first | refine blk_drewN ?_ _ | refine blk_drew ?_ | refine blk_alloc ?_ _));refine blk_put (cs:=#[.int .i64 ((rd_T107 l0_3 x18_1).f0),.int .u64 ((rd_T107 l0_3 x18_1).f1.f0),.int .u64 ((rd_T107 l0_3 x18_1).f1.f1),.int .u64 0,.string (⟨#[]⟩:ByteArray),.string (⟨#[]⟩:ByteArray)]) ?_ 3 _ rfl;(with_reducible repeat (first | refine blk_drewN ?_ _ | refine blk_drew ?_ | refine blk_alloc ?_ _));refine blk_put (cs:=#[.int .i64 ((rd_T107 l0_3 x18_1).f0),.int .u64 ((rd_T107 l0_3 x18_1).f1.f0),.int .u64 0,.int .u64 0,.string (⟨#[]⟩:ByteArray),.string (⟨#[]⟩:ByteArray)]) ?_ 2 _ rfl;(with_reducible repeat (first | refine blk_drewN ?_ _ | refine blk_drew ?_ | refine blk_alloc ?_ _));refine blk_put (cs:=#[.int .i64 ((rd_T107 l0_3 x18_1).f0),.int .u64 0,.int .u64 0,.int .u64 0,.string (⟨#[]⟩:ByteArray),.string (⟨#[]⟩:ByteArray)]) ?_ 1 _ rfl;(with_reducible repeat (first | refine blk_drewN ?_ _ | refine blk_drew ?_ | refine blk_alloc ?_ _));refine blk_put (cs:=#[.int .i64 0,.int .u64 0,.int .u64 0,.int .u64 0,.string (⟨#[]⟩:ByteArray),.string (⟨#[]⟩:ByteArray)]) ?_ 0 _ rfl;(with_reducible repeat (first | refine blk_drewN ?_ _ | refine blk_drew ?_ | refine blk_alloc ?_ _));exact BK210.out) hg (Kd.R_ne HO_209003.out BK210.out (by decide)));have n4_:=Aside0.mk (hb);have n5_:=Aside0.mk (ho);clear BK206;clear BK207;clear BK208;clear BK210;clear HB;clear HO_209003;have BK206:=n0_;have BK207:=n1_;have BK208:=n2_;have BK210:=n3_;have HB:=n4_;have HO213:=n5_;clear n0_ n1_ n2_ n3_ n4_ n5_;clear ho hb hg hat;obtain ⟨Ao24,co24,eo24⟩:=Kd.R_slice HO213.out;subst eo24;have hcz25_0:w23.cell? ⟨gb208,0,none⟩ = some (.int .u64 a0_0):=(blk_cell BK208.out 0).trans rfl;have hcz25_1:w23.cell? ⟨gb208,1,none⟩ = some (.int .u64 a0_1):=(blk_cell BK208.out 1).trans rfl;have hcz25_2:w23.cell? ⟨gb208,2,none⟩ = some (.int .u64 a0_2):=(blk_cell BK208.out 2).trans rfl;have hcz25_3:w23.cell? ⟨gb208,3,none⟩ = some (u209003):=(blk_cell BK208.out 3).trans rfl;have hcz25_4:w23.cell? ⟨gb208,4,none⟩ = some (.slice none 0 0):=(blk_cell BK208.out 4).trans rfl;have hfz25_0:=blk_frozen BK208.out 0;have hfz25_1:=blk_frozen BK208.out 1;have hfz25_2:=blk_frozen BK208.out 2;have hfz25_3:=blk_frozen BK208.out 3;have hfz25_4:=blk_frozen BK208.out 4))
       go_roundg k1
       case measure=>have:=HK1.out;omega
       case rel=>exact ⟨(wrap64 (x18_1 + 1)),(y211),(.slice Ao24 y211.length co24),(by first | rfl | (simp;done) | (simp [*];done)),H',⟨by have:=HK1.out;omega⟩,⟨by (with_reducible repeat (first | apply Kd.R_alloc | apply Kd.R_drewN | apply Kd.R_drew));exact Kd.R_mono (Kd.R_far (p:=⟨gb208,3,none⟩) (Kd.R_types HO213.out BK208.out (by decide)) (fun _ hk=>hk.2) (.slice Ao24 y211.length co24)) (fun _ hk=>trivial)⟩,⟨by (with_reducible repeat (first | refine blk_drewN ?_ _ | refine blk_drew ?_ | refine blk_alloc ?_ _));refine blk_far ?_ NB206_208.out _;(with_reducible repeat (first | refine blk_drewN ?_ _ | refine blk_drew ?_ | refine blk_alloc ?_ _));exact BK206.out⟩,⟨by (with_reducible repeat (first | refine blk_drewN ?_ _ | refine blk_drew ?_ | refine blk_alloc ?_ _));refine blk_far ?_ NB207_208.out _;(with_reducible repeat (first | refine blk_drewN ?_ _ | refine blk_drew ?_ | refine blk_alloc ?_ _));exact BK207.out⟩,⟨by (with_reducible repeat (first | refine blk_drewN ?_ _ | refine blk_drew ?_ | refine blk_alloc ?_ _));refine blk_put (cs:=#[.int .u64 a0_0,.int .u64 a0_1,.int .u64 a0_2,u209003,.slice none 0 0]) ?_ 3 _ rfl;(with_reducible repeat (first | refine blk_drewN ?_ _ | refine blk_drew ?_ | refine blk_alloc ?_ _));exact BK208.out⟩,⟨by repeat (first | (with_reducible first | exact HB.out | apply below_alloc | apply pw_below_drewN | apply below_drew1 | refine below_set ?_ GE206.out | refine below_set ?_ GE207.out | refine below_set ?_ GE208.out | refine below_set ?_ GE210.out) | exact HB.out)⟩⟩
      ·rw [if_neg c14] at H
       exact absurd H (by simp)
     ·rw [if_neg c13] at H
      exact absurd H (by simp)
    ·rw [if_neg c12] at H
     exact absurd H (by simp)
   ·rw [if_neg c11] at H
    have c11b0:decide (x18_1 < (l0_3.length:Int)) = false:=decide_eq_false c11
    clear c11
    have H':=Aside0.mk H
    clear H
    have hnb26:=NB206_207.out
    have hnc26:=NB207_206.out
    have hnb27:=NB206_208.out
    have hnc27:=NB208_206.out
    have hcz28_0:wr.cell? ⟨gb206,0,none⟩ = some (.int .u64 a0_0):=(blk_cell BK206.out 0).trans rfl
    have hcz28_1:wr.cell? ⟨gb206,1,none⟩ = some (.int .u64 a0_1):=(blk_cell BK206.out 1).trans rfl
    have hcz28_2:wr.cell? ⟨gb206,2,none⟩ = some (.int .u64 a0_2):=(blk_cell BK206.out 2).trans rfl
    have hcz28_3:wr.cell? ⟨gb206,3,none⟩ = some (.slice A0_3 l0_3.length c0_3):=(blk_cell BK206.out 3).trans rfl
    have hcz28_4:wr.cell? ⟨gb206,4,none⟩ = some (.slice A0_4 l0_4.length c0_4):=(blk_cell BK206.out 4).trans rfl
    have hfz28_0:=blk_frozen BK206.out 0
    have hfz28_1:=blk_frozen BK206.out 1
    have hfz28_2:=blk_frozen BK206.out 2
    have hfz28_3:=blk_frozen BK206.out 3
    have hfz28_4:=blk_frozen BK206.out 4
    go_wp2
    go_loopg [36] k1 (fun kq v36 w'=>∃ (x36_2:Int) (x209004_2:List (S115)) (u209004:Value),v36 = .int .i64 x36_2 ∧ Aside0 (bourselaw12_To.l1 kq l0_4 (l0_4.length:Int) x36_2 a0_0 a0_1 a0_2 x209003_1 x209004_2 = some (r1,r2,r3,r4,r5)) ∧ Aside0 (kq ≤ k1) ∧ Aside0 (Kd.R k114 114 w' w.heap.size (fun _=>True) u209003 x209003_1) ∧ Aside0 (Kd.R k115 115 w' w.heap.size (fun _=>True) u209004 x209004_2) ∧ Aside0 (w'.heap[gb206]? = some (.cells #[.int .u64 a0_0,.int .u64 a0_1,.int .u64 a0_2,(.slice A0_3 l0_3.length c0_3),(.slice A0_4 l0_4.length c0_4)] 26 (0,0))) ∧ Aside0 (w'.heap[gb207]? = some (.cells #[.int .u64 0,.int .u64 0,.int .u64 0,(.slice none 0 0),(.slice none 0 0)] 36 (0,0))) ∧ Aside0 (w'.heap[gb208]? = some (.cells #[.int .u64 a0_0,.int .u64 a0_1,.int .u64 a0_2,u209003,u209004] 36 (0,0))) ∧ Aside0 (Below w.heap.size w w'))
    case atStart=>exact ⟨(0),(([]:List (S115))),(.slice none 0 0),(by first | rfl | (simp;done) | (simp [*];done)),H',⟨Nat.le_refl _⟩,⟨by (with_reducible repeat (first | apply Kd.R_alloc | apply Kd.R_drewN | apply Kd.R_drew));exact HO_209003.out⟩,⟨by first | exact Kd.R_nil _ _ _ _ _ | exact Kd.N_nil _ _ _ _ _ | exact Kd.V_nil _ _ _ _ _ | exact Kd.Q_nil _ _ _ _ _ | exact Kd.S_nil _ _ _ _ _⟩,⟨by (with_reducible repeat (first | refine blk_drewN ?_ _ | refine blk_drew ?_ | refine blk_alloc ?_ _));exact BK206.out⟩,⟨by (with_reducible repeat (first | refine blk_drewN ?_ _ | refine blk_drew ?_ | refine blk_alloc ?_ _));exact BK207.out⟩,⟨by (with_reducible repeat (first | refine blk_drewN ?_ _ | refine blk_drew ?_ | refine blk_alloc ?_ _));exact BK208.out⟩,⟨by repeat (first | (with_reducible first | exact HB.out | apply below_alloc | apply pw_below_drewN | apply below_drew1 | refine below_set ?_ GE206.out | refine below_set ?_ GE207.out | refine below_set ?_ GE208.out) | exact HB.out)⟩⟩
    case round=>
     clear H'
     try clear c1
     try clear c2
     try clear p2
     try clear q2
     try clear hx2
     try clear c4
     try clear p6
     try clear c7
     try clear c8
     try clear c11
     try clear c11b0
     try clear c12
     try clear c12b0
     try clear c13
     try clear c13b0
     try clear c14
     try clear c16
     try clear c17
     try clear c18
     try clear c20
     try clear p20
     try clear q20
     try clear hx20
     try clear c21
     try clear c26
     try clear c27
     try clear hcz10_0
     try clear hcz10_1
     try clear hcz10_2
     try clear hcz10_3
     try clear hcz10_4
     try clear hcz19_0
     try clear hcz19_1
     try clear hcz19_2
     try clear hcz19_3
     try clear hcz19_4
     try clear hcz19_5
     try clear hcz22_0
     try clear hcz22_1
     try clear hcz22_2
     try clear hcz22_3
     try clear hcz22_4
     try clear hcz25_0
     try clear hcz25_1
     try clear hcz25_2
     try clear hcz25_3
     try clear hcz25_4
     try clear hcz28_0
     try clear hcz28_1
     try clear hcz28_2
     try clear hcz28_3
     try clear hcz28_4
     try clear hcz5_0
     try clear hcz5_1
     try clear hcz5_2
     try clear hcz5_3
     try clear hcz5_4
     try clear hcz9_0
     try clear hcz9_1
     try clear hcz9_2
     try clear hcz9_3
     try clear hcz9_4
     try clear hfz10_0
     try clear hfz10_1
     try clear hfz10_2
     try clear hfz10_3
     try clear hfz10_4
     try clear hfz19_0
     try clear hfz19_1
     try clear hfz19_2
     try clear hfz19_3
     try clear hfz19_4
     try clear hfz19_5
     try clear hfz22_0
     try clear hfz22_1
     try clear hfz22_2
     try clear hfz22_3
     try clear hfz22_4
     try clear hfz25_0
     try clear hfz25_1
     try clear hfz25_2
     try clear hfz25_3
     try clear hfz25_4
     try clear hfz28_0
     try clear hfz28_1
     try clear hfz28_2
     try clear hfz28_3
     try clear hfz28_4
     try clear hfz5_0
     try clear hfz5_1
     try clear hfz5_2
     try clear hfz5_3
     try clear hfz5_4
     try clear hfz9_0
     try clear hfz9_1
     try clear hfz9_2
     try clear hfz9_3
     try clear hfz9_4
     try clear hx209_0
     try clear hx209_1
     try clear hx209_2
     try clear hx209_3
     try clear hx209_4
     try clear hx209_5
     try clear p2
     try clear p209
     try clear q209
     obtain ⟨x36_2,x209004_2,u209004,rfl,HA,HK2,HO_209003,HO_209004,BK206,BK207,BK208,HB⟩:=hrel
     cases gk with
     | zero=>exact absurd HA.out (by simp [bourselaw12_To.l1])
     | succ k2=>
      have H:=HA.out
      clear HA
      simp only [bourselaw12_To.l1] at H
      by_cases c29:x36_2 < (l0_4.length:Int)
      ·rw [if_pos c29] at H
       have c29b0:decide (x36_2 < (l0_4.length:Int)) = true:=decide_eq_true c29
       clear c29
       by_cases c30:0 ≤ x36_2
       ·rw [if_pos c30] at H
        have c30b0:decide (0 ≤ x36_2) = true:=decide_eq_true c30
        clear c30
        by_cases c31:x36_2 < (l0_4.length:Int)
        ·rw [if_pos c31] at H
         have c31b0:decide (x36_2 < (l0_4.length:Int)) = true:=decide_eq_true c31
         clear c31
         by_cases c32:x209004_2.length < 8796093022208
         ·rw [if_pos c32] at H
          have LMc32:=Aside0.mk c32
          clear c32
          obtain ⟨y216,hy216⟩:∃ y_:List (S115),y_ = (x209004_2 ++ [(⟨(rd_T111 l0_4 x36_2).f0,(rd_T111 l0_4 x36_2).f1⟩:S115)]):=⟨_,rfl⟩
          replace H:(bourselaw12_To.l1 k2 l0_4 (l0_4.length:Int) (wrap64 (x36_2 + 1)) a0_0 a0_1 a0_2 x209003_1 y216) = some (r1,r2,r3,r4,r5):=by first | (rw [hy216];with_reducible exact H) | (have H2_:=(Option.bind_some _ _).symm.trans H;rw [hy216];with_reducible exact H2_) | (have H2_:=(Option.bind_some _ _).symm.trans H;with_reducible exact H2_) | with_reducible exact H | (rw [hy216];exact H) | exact H
          have Ny216:=Aside0.mk hy216
          clear hy216
          have H':=Aside0.mk H
          clear H
          have p214:0 ≤ (x36_2:Int):=of_decide_eq_true (by first | (with_reducible assumption) | assumption)
          have q214:x36_2 < (l0_4.length:Int):=of_decide_eq_true (by first | (with_reducible assumption) | assumption)
          obtain ⟨ad214,e214,hx214_0,hx214_1⟩:=at_T111 HR0_4.out x36_2 p214 q214
          cases e214
          replace hx214_0:=(HB.out.cell (World.block_lt_of_cell? w _ hx214_0)).trans hx214_0
          replace hx214_1:=(HB.out.cell (World.block_lt_of_cell? w _ hx214_1)).trans hx214_1
          replace p214:=eq_true p214
          replace q214:=eq_true q214
          go_wp2_with (first | ((with_reducible refine gate_dst (N:=7) rfl ?_);refine box_event ?hg (N:=7) ?hd (cs:=#[.int .i64 0,.int .u64 0]) (t:=111) ?hr ?_;(case hd=>rfl);(case hg=>rfl);(case hr=>first | (go_simp;done) | (go_simp;rfl));intro gb215 hg w33 hbox hb;have n0_:=Aside0.mk (Kd.R_below (by (with_reducible repeat (first | apply Kd.R_alloc | apply Kd.R_drewN | apply Kd.R_drew));exact HO_209003.out) hb);have n1_:=Aside0.mk (Kd.R_below (by (with_reducible repeat (first | apply Kd.R_alloc | apply Kd.R_drewN | apply Kd.R_drew));exact HO_209004.out) hb);have n2_:=Aside0.mk (blk_below (g:=gb206) (o:=.cells #[.int .u64 a0_0,.int .u64 a0_1,.int .u64 a0_2,.slice A0_3 l0_3.length c0_3,.slice (some ad214) l0_4.length c0_4] 26 (0,0)) (by (with_reducible repeat (first | refine blk_drewN ?_ _ | refine blk_drew ?_ | refine blk_alloc ?_ _));exact BK206.out) hb);have n3_:=Aside0.mk (blk_below (g:=gb207) (o:=.cells #[.int .u64 0,.int .u64 0,.int .u64 0,.slice none 0 0,.slice none 0 0] 36 (0,0)) (by (with_reducible repeat (first | refine blk_drewN ?_ _ | refine blk_drew ?_ | refine blk_alloc ?_ _));exact BK207.out) hb);have n4_:=Aside0.mk (blk_below (g:=gb208) (o:=.cells #[.int .u64 a0_0,.int .u64 a0_1,.int .u64 a0_2,u209003,u209004] 36 (0,0)) (by (with_reducible repeat (first | refine blk_drewN ?_ _ | refine blk_drew ?_ | refine blk_alloc ?_ _));exact BK208.out) hb);have n5_:=Aside0.mk (below_step (by repeat (first | (with_reducible first | exact HB.out | apply below_alloc | apply pw_below_drewN | apply below_drew1 | refine below_set ?_ GE206.out | refine below_set ?_ GE207.out | refine below_set ?_ GE208.out) | exact HB.out)) hb);have n6_:=Aside0.mk (hbox);have n7_:=Aside0.mk ((by rw [hg];exact (below_size (by repeat (first | (with_reducible first | exact HB.out | apply below_alloc | apply pw_below_drewN | apply below_drew1 | refine below_set ?_ GE206.out | refine below_set ?_ GE207.out | refine below_set ?_ GE208.out) | exact HB.out))):w.heap.size ≤ gb215));have n8_:=Aside0.mk ((by rw [hg];exact (below_size (by repeat (first | (with_reducible first | exact HB.out | apply below_alloc | apply pw_below_drewN | apply below_drew1 | refine below_set ?_ GE206.out | refine below_set ?_ GE207.out | refine below_set ?_ GE208.out) | exact HB.out))):w.heap.size ≤ gb215));have n9_:=Aside0.mk ((by rw [hg];exact Nat.ne_of_lt (blk_lt (g:=gb206) (o:=.cells #[.int .u64 a0_0,.int .u64 a0_1,.int .u64 a0_2,.slice A0_3 l0_3.length c0_3,.slice (some ad214) l0_4.length c0_4] 26 (0,0)) (by (with_reducible repeat (first | refine blk_drewN ?_ _ | refine blk_drew ?_ | refine blk_alloc ?_ _));exact BK206.out)):gb206 ≠ gb215));have n10_:=Aside0.mk ((by rw [hg];exact Nat.ne_of_gt (blk_lt (g:=gb206) (o:=.cells #[.int .u64 a0_0,.int .u64 a0_1,.int .u64 a0_2,.slice A0_3 l0_3.length c0_3,.slice (some ad214) l0_4.length c0_4] 26 (0,0)) (by (with_reducible repeat (first | refine blk_drewN ?_ _ | refine blk_drew ?_ | refine blk_alloc ?_ _));exact BK206.out)):gb215 ≠ gb206));have n11_:=Aside0.mk ((by rw [hg];exact Nat.ne_of_lt (blk_lt (g:=gb207) (o:=.cells #[.int .u64 0,.int .u64 0,.int .u64 0,.slice none 0 0,.slice none 0 0] 36 (0,0)) (by (with_reducible repeat (first | refine blk_drewN ?_ _ | refine blk_drew ?_ | refine blk_alloc ?_ _));exact BK207.out)):gb207 ≠ gb215));have n12_:=Aside0.mk ((by rw [hg];exact Nat.ne_of_gt (blk_lt (g:=gb207) (o:=.cells #[.int .u64 0,.int .u64 0,.int .u64 0,.slice none 0 0,.slice none 0 0] 36 (0,0)) (by (with_reducible repeat (first | refine blk_drewN ?_ _ | refine blk_drew ?_ | refine blk_alloc ?_ _));exact BK207.out)):gb215 ≠ gb207));have n13_:=Aside0.mk ((by rw [hg];exact Nat.ne_of_lt (blk_lt (g:=gb208) (o:=.cells #[.int .u64 a0_0,.int .u64 a0_1,.int .u64 a0_2,u209003,u209004] 36 (0,0)) (by (with_reducible repeat (first | refine blk_drewN ?_ _ | refine blk_drew ?_ | refine blk_alloc ?_ _));exact BK208.out)):gb208 ≠ gb215));have n14_:=Aside0.mk ((by rw [hg];exact Nat.ne_of_gt (blk_lt (g:=gb208) (o:=.cells #[.int .u64 a0_0,.int .u64 a0_1,.int .u64 a0_2,u209003,u209004] 36 (0,0)) (by (with_reducible repeat (first | refine blk_drewN ?_ _ | refine blk_drew ?_ | refine blk_alloc ?_ _));exact BK208.out)):gb215 ≠ gb208));clear HO_209003;clear HO_209004;clear BK206;clear BK207;clear BK208;clear HB;have HO_209003:=n0_;have HO_209004:=n1_;have BK206:=n2_;have BK207:=n3_;have BK208:=n4_;have HB:=n5_;have BK215:=n6_;have GW215:=n7_;have GE215:=n8_;have NB206_215:=n9_;have NB215_206:=n10_;have NB207_215:=n11_;have NB215_207:=n12_;have NB208_215:=n13_;have NB215_208:=n14_;clear n0_ n1_ n2_ n3_ n4_ n5_ n6_ n7_ n8_ n9_ n10_ n11_ n12_ n13_ n14_;clear hb hbox hg;have hnb34:=NB215_206.out;have hnc34:=NB206_215.out;have hnb35:=NB215_207.out;have hnc35:=NB207_215.out;have hnb36:=NB215_208.out;have hnc36:=NB208_215.out;have hcz37_0:w33.cell? ⟨gb215,0,none⟩ = some (.int .i64 0):=(blk_cell BK215.out 0).trans rfl;have hcz37_1:w33.cell? ⟨gb215,1,none⟩ = some (.int .u64 0):=(blk_cell BK215.out 1).trans rfl;have hfz37_0:=blk_frozen BK215.out 0;have hfz37_1:=blk_frozen BK215.out 1;have hnb38:=NB208_206.out;have hnc38:=NB206_208.out;have hnb39:=NB208_207.out;have hnc39:=NB207_208.out;have hcz40_0:w33.cell? ⟨gb208,0,none⟩ = some (.int .u64 a0_0):=(blk_cell BK208.out 0).trans rfl;have hcz40_1:w33.cell? ⟨gb208,1,none⟩ = some (.int .u64 a0_1):=(blk_cell BK208.out 1).trans rfl;have hcz40_2:w33.cell? ⟨gb208,2,none⟩ = some (.int .u64 a0_2):=(blk_cell BK208.out 2).trans rfl;have hcz40_3:w33.cell? ⟨gb208,3,none⟩ = some (u209003):=(blk_cell BK208.out 3).trans rfl;have hcz40_4:w33.cell? ⟨gb208,4,none⟩ = some (u209004):=(blk_cell BK208.out 4).trans rfl;have hfz40_0:=blk_frozen BK208.out 0;have hfz40_1:=blk_frozen BK208.out 1;have hfz40_2:=blk_frozen BK208.out 2;have hfz40_3:=blk_frozen BK208.out 3;have hfz40_4:=blk_frozen BK208.out 4) | ((with_reducible refine gate_builtin (b:=.append) (xs:=#[.tmp 41,.tmp 43]) rfl ?_);at_builtin;refine Kd.R_append k115 (w0:=w) w.heap.size rfl (.tmp 41) (.tmp 43) 34 115 (.agg #[(.int .i64 0),(.int .u64 0)]) 16 rfl Tryd.underlying34 info115 rfl (by decide) (by omega) u209004 x209004_2 (⟨(rd_T111 l0_4 x36_2).f0,(rd_T111 l0_4 x36_2).f1⟩:S115) [.int .i64 ((rd_T111 l0_4 x36_2).f0),.int .u64 ((rd_T111 l0_4 x36_2).f1)] (fun _=>True) (fun _=>False) rfl (by first | (go_simp;done) | (go_simp;rfl)) ?aP (fun _ hk=>hk.elim) ?aF ?aO ?aB ?aS ?aL ?_;(case aP=>exact k115_mkM _ _ _ (⟨(rd_T111 l0_4 x36_2).f0,(rd_T111 l0_4 x36_2).f1⟩:S115));(case aB=>exact (by repeat (first | (with_reducible first | exact HB.out | apply below_alloc | apply pw_below_drewN | apply below_drew1 | refine below_set ?_ GE206.out | refine below_set ?_ GE207.out | refine below_set ?_ GE208.out | refine below_set ?_ GE215.out) | exact HB.out)));(case aF=>exact (fun _ _=>trivial));(case aO=>exact (by (with_reducible repeat (first | apply Kd.R_alloc | apply Kd.R_drewN | apply Kd.R_drew));exact Kd.R_mono (Kd.R_far (p:=⟨gb215,1,none⟩) (Kd.R_far (p:=⟨gb215,0,none⟩) (Kd.R_types HO_209004.out BK215.out (by decide)) (fun _ hk=>hk.2) (.int .i64 ((rd_T111 l0_4 x36_2).f0))) (fun _ hk=>hk.2) (.int .u64 ((rd_T111 l0_4 x36_2).f1))) (fun _ hk=>trivial)));(case aS=>exact (below_size (by repeat (first | (with_reducible first | exact HB.out | apply below_alloc | apply pw_below_drewN | apply below_drew1 | refine below_set ?_ GE206.out | refine below_set ?_ GE207.out | refine below_set ?_ GE208.out | refine below_set ?_ GE215.out) | exact HB.out))));(case aL=>have:=LMc32.out;omega);intro v217 w41 ho hb hg hat;rw [← Ny216.out] at ho;have n0_:=Aside0.mk (Kd.R_over' (by (with_reducible repeat (first | apply Kd.R_alloc | apply Kd.R_drewN | apply Kd.R_drew));exact (Kd.R_mono (Kd.R_far (p:=⟨gb215,1,none⟩) (Kd.R_far (p:=⟨gb215,0,none⟩) (Kd.R_types HO_209003.out BK215.out (by decide)) (fun _ hk=>hk.2) (.int .i64 ((rd_T111 l0_4 x36_2).f0))) (fun _ hk=>hk.2) (.int .u64 ((rd_T111 l0_4 x36_2).f1))) (fun _ h_=>h_.1))) (Kd.R_typed (by (with_reducible repeat (first | apply Kd.R_alloc | apply Kd.R_drewN | apply Kd.R_drew));exact (Kd.R_mono (Kd.R_far (p:=⟨gb215,1,none⟩) (Kd.R_far (p:=⟨gb215,0,none⟩) (Kd.R_types HO_209004.out BK215.out (by decide)) (fun _ hk=>hk.2) (.int .i64 ((rd_T111 l0_4 x36_2).f0))) (fun _ hk=>hk.2) (.int .u64 ((rd_T111 l0_4 x36_2).f1))) (fun _ h_=>h_.1)))) (by decide) hg);have n1_:=Aside0.mk (blk_grown (g:=gb206) (o:=.cells #[.int .u64 a0_0,.int .u64 a0_1,.int .u64 a0_2,.slice A0_3 l0_3.length c0_3,.slice (some ad214) l0_4.length c0_4] 26 (0,0)) (by (with_reducible repeat (first | refine blk_drewN ?_ _ | refine blk_drew ?_ | refine blk_alloc ?_ _));refine blk_far ?_ NB206_215.out _;(with_reducible repeat (first | refine blk_drewN ?_ _ | refine blk_drew ?_ | refine blk_alloc ?_ _));refine blk_far ?_ NB206_215.out _;(with_reducible repeat (first | refine blk_drewN ?_ _ | refine blk_drew ?_ | refine blk_alloc ?_ _));exact BK206.out) hg (Kd.R_ne HO_209004.out BK206.out (by decide)));have n2_:=Aside0.mk (blk_grown (g:=gb207) (o:=.cells #[.int .u64 0,.int .u64 0,.int .u64 0,.slice none 0 0,.slice none 0 0] 36 (0,0)) (by (with_reducible repeat (first | refine blk_drewN ?_ _ | refine blk_drew ?_ | refine blk_alloc ?_ _));refine blk_far ?_ NB207_215.out _;(with_reducible repeat (first | refine blk_drewN ?_ _ | refine blk_drew ?_ | refine blk_alloc ?_ _));refine blk_far ?_ NB207_215.out _;(with_reducible repeat (first | refine blk_drewN ?_ _ | refine blk_drew ?_ | refine blk_alloc ?_ _));exact BK207.out) hg (Kd.R_ne HO_209004.out BK207.out (by decide)));have n3_:=Aside0.mk (blk_grown (g:=gb208) (o:=.cells #[.int .u64 a0_0,.int .u64 a0_1,.int .u64 a0_2,u209003,u209004] 36 (0,0)) (by (with_reducible repeat (first | refine blk_drewN ?_ _ | refine blk_drew ?_ | refine blk_alloc ?_ _));refine blk_far ?_ NB208_215.out _;(with_reducible repeat (first | refine blk_drewN ?_ _ | refine blk_drew ?_ | refine blk_alloc ?_ _));refine blk_far ?_ NB208_215.out _;(with_reducible repeat (first | refine blk_drewN ?_ _ | refine blk_drew ?_ | refine blk_alloc ?_ _));exact BK208.out) hg (Kd.R_ne HO_209004.out BK208.out (by decide)));have n4_:=Aside0.mk (blk_grown (g:=gb215) (o:=.cells #[.int .i64 ((rd_T111 l0_4 x36_2).f0),.int .u64 ((rd_T111 l0_4 x36_2).f1)] 111 (0,0)) (by (with_reducible repeat (first | refine blk_drewN ?_ _ | refine blk_drew ?_ | refine blk_alloc ?_ _));refine blk_put (cs:=#[.int .i64 ((rd_T111 l0_4 x36_2).f0),.int .u64 0]) ?_ 1 _ rfl;(with_reducible repeat (first | refine blk_drewN ?_ _ | refine blk_drew ?_ | refine blk_alloc ?_ _));refine blk_put (cs:=#[.int .i64 0,.int .u64 0]) ?_ 0 _ rfl;(with_reducible repeat (first | refine blk_drewN ?_ _ | refine blk_drew ?_ | refine blk_alloc ?_ _));exact BK215.out) hg (Kd.R_ne HO_209004.out BK215.out (by decide)));have n5_:=Aside0.mk (hb);have n6_:=Aside0.mk (ho);clear HO_209003;clear BK206;clear BK207;clear BK208;clear BK215;clear HB;clear HO_209004;have HO_209003:=n0_;have BK206:=n1_;have BK207:=n2_;have BK208:=n3_;have BK215:=n4_;have HB:=n5_;have HO218:=n6_;clear n0_ n1_ n2_ n3_ n4_ n5_ n6_;clear ho hb hg hat;obtain ⟨Ao42,co42,eo42⟩:=Kd.R_slice HO218.out;subst eo42;have hcz43_0:w41.cell? ⟨gb208,0,none⟩ = some (.int .u64 a0_0):=(blk_cell BK208.out 0).trans rfl;have hcz43_1:w41.cell? ⟨gb208,1,none⟩ = some (.int .u64 a0_1):=(blk_cell BK208.out 1).trans rfl;have hcz43_2:w41.cell? ⟨gb208,2,none⟩ = some (.int .u64 a0_2):=(blk_cell BK208.out 2).trans rfl;have hcz43_3:w41.cell? ⟨gb208,3,none⟩ = some (u209003):=(blk_cell BK208.out 3).trans rfl;have hcz43_4:w41.cell? ⟨gb208,4,none⟩ = some (u209004):=(blk_cell BK208.out 4).trans rfl;have hfz43_0:=blk_frozen BK208.out 0;have hfz43_1:=blk_frozen BK208.out 1;have hfz43_2:=blk_frozen BK208.out 2;have hfz43_3:=blk_frozen BK208.out 3;have hfz43_4:=blk_frozen BK208.out 4))
          go_roundg k2
          case measure=>have:=HK1.out;have:=HK2.out;omega
          case rel=>exact ⟨(wrap64 (x36_2 + 1)),(y216),(.slice Ao42 y216.length co42),(by first | rfl | (simp;done) | (simp [*];done)),H',⟨by have:=HK1.out;have:=HK2.out;omega⟩,⟨by (with_reducible repeat (first | apply Kd.R_alloc | apply Kd.R_drewN | apply Kd.R_drew));exact Kd.R_mono (Kd.R_far (p:=⟨gb208,4,none⟩) (Kd.R_types HO_209003.out BK208.out (by decide)) (fun _ hk=>hk.2) (.slice Ao42 y216.length co42)) (fun _ hk=>trivial)⟩,⟨by (with_reducible repeat (first | apply Kd.R_alloc | apply Kd.R_drewN | apply Kd.R_drew));exact Kd.R_mono (Kd.R_far (p:=⟨gb208,4,none⟩) (Kd.R_types HO218.out BK208.out (by decide)) (fun _ hk=>hk.2) (.slice Ao42 y216.length co42)) (fun _ hk=>trivial)⟩,⟨by (with_reducible repeat (first | refine blk_drewN ?_ _ | refine blk_drew ?_ | refine blk_alloc ?_ _));refine blk_far ?_ NB206_208.out _;(with_reducible repeat (first | refine blk_drewN ?_ _ | refine blk_drew ?_ | refine blk_alloc ?_ _));exact BK206.out⟩,⟨by (with_reducible repeat (first | refine blk_drewN ?_ _ | refine blk_drew ?_ | refine blk_alloc ?_ _));refine blk_far ?_ NB207_208.out _;(with_reducible repeat (first | refine blk_drewN ?_ _ | refine blk_drew ?_ | refine blk_alloc ?_ _));exact BK207.out⟩,⟨by (with_reducible repeat (first | refine blk_drewN ?_ _ | refine blk_drew ?_ | refine blk_alloc ?_ _));refine blk_put (cs:=#[.int .u64 a0_0,.int .u64 a0_1,.int .u64 a0_2,u209003,u209004]) ?_ 4 _ rfl;(with_reducible repeat (first | refine blk_drewN ?_ _ | refine blk_drew ?_ | refine blk_alloc ?_ _));exact BK208.out⟩,⟨by repeat (first | (with_reducible first | exact HB.out | apply below_alloc | apply pw_below_drewN | apply below_drew1 | refine below_set ?_ GE206.out | refine below_set ?_ GE207.out | refine below_set ?_ GE208.out | refine below_set ?_ GE215.out) | exact HB.out)⟩⟩
         ·rw [if_neg c32] at H
          exact absurd H (by simp)
        ·rw [if_neg c31] at H
         exact absurd H (by simp)
       ·rw [if_neg c30] at H
        exact absurd H (by simp)
      ·rw [if_neg c29] at H
       have c29b0:decide (x36_2 < (l0_4.length:Int)) = false:=decide_eq_false c29
       clear c29
       simp only [Option.some.injEq,Prod.mk.injEq] at H
       obtain ⟨rfl,rfl,rfl,rfl,rfl⟩:=H
       have hnb44:=NB208_206.out
       have hnc44:=NB206_208.out
       have hnb45:=NB208_207.out
       have hnc45:=NB207_208.out
       have hcz46_0:wr.cell? ⟨gb208,0,none⟩ = some (.int .u64 a0_0):=(blk_cell BK208.out 0).trans rfl
       have hcz46_1:wr.cell? ⟨gb208,1,none⟩ = some (.int .u64 a0_1):=(blk_cell BK208.out 1).trans rfl
       have hcz46_2:wr.cell? ⟨gb208,2,none⟩ = some (.int .u64 a0_2):=(blk_cell BK208.out 2).trans rfl
       have hcz46_3:wr.cell? ⟨gb208,3,none⟩ = some (u209003):=(blk_cell BK208.out 3).trans rfl
       have hcz46_4:wr.cell? ⟨gb208,4,none⟩ = some (u209004):=(blk_cell BK208.out 4).trans rfl
       have hfz46_0:=blk_frozen BK208.out 0
       have hfz46_1:=blk_frozen BK208.out 1
       have hfz46_2:=blk_frozen BK208.out 2
       have hfz46_3:=blk_frozen BK208.out 3
       have hfz46_4:=blk_frozen BK208.out 4
       have hnb47:=NB207_206.out
       have hnc47:=NB206_207.out
       have hcz48_0:wr.cell? ⟨gb207,0,none⟩ = some (.int .u64 0):=(blk_cell BK207.out 0).trans rfl
       have hcz48_1:wr.cell? ⟨gb207,1,none⟩ = some (.int .u64 0):=(blk_cell BK207.out 1).trans rfl
       have hcz48_2:wr.cell? ⟨gb207,2,none⟩ = some (.int .u64 0):=(blk_cell BK207.out 2).trans rfl
       have hcz48_3:wr.cell? ⟨gb207,3,none⟩ = some (.slice none 0 0):=(blk_cell BK207.out 3).trans rfl
       have hcz48_4:wr.cell? ⟨gb207,4,none⟩ = some (.slice none 0 0):=(blk_cell BK207.out 4).trans rfl
       have hfz48_0:=blk_frozen BK207.out 0
       have hfz48_1:=blk_frozen BK207.out 1
       have hfz48_2:=blk_frozen BK207.out 2
       have hfz48_3:=blk_frozen BK207.out 3
       have hfz48_4:=blk_frozen BK207.out 4
       obtain ⟨Ao49,co49,eo49⟩:=Kd.R_slice HO_209003.out
       subst eo49
       obtain ⟨Ao50,co50,eo50⟩:=Kd.R_slice HO_209004.out
       subst eo50
       go_wp2
       refine bodyPost_ret (results_cell_row rfl _ _ gb207 36 #[.int .u64 a0_0,.int .u64 a0_1,.int .u64 a0_2,.slice Ao49 x209003_1.length co49,.slice Ao50 x209004_2.length co50] (0,0) _ rfl (by (with_reducible repeat (first | refine blk_drewN ?_ _ | refine blk_drew ?_ | refine blk_alloc ?_ _));refine blk_put (cs:=#[.int .u64 a0_0,.int .u64 a0_1,.int .u64 a0_2,.slice Ao49 x209003_1.length co49,.slice none 0 0]) ?_ 4 _ rfl;(with_reducible repeat (first | refine blk_drewN ?_ _ | refine blk_drew ?_ | refine blk_alloc ?_ _));refine blk_put (cs:=#[.int .u64 a0_0,.int .u64 a0_1,.int .u64 a0_2,.slice none 0 0,.slice none 0 0]) ?_ 3 _ rfl;(with_reducible repeat (first | refine blk_drewN ?_ _ | refine blk_drew ?_ | refine blk_alloc ?_ _));refine blk_put (cs:=#[.int .u64 a0_0,.int .u64 a0_1,.int .u64 0,.slice none 0 0,.slice none 0 0]) ?_ 2 _ rfl;(with_reducible repeat (first | refine blk_drewN ?_ _ | refine blk_drew ?_ | refine blk_alloc ?_ _));refine blk_put (cs:=#[.int .u64 a0_0,.int .u64 0,.int .u64 0,.slice none 0 0,.slice none 0 0]) ?_ 1 _ rfl;(with_reducible repeat (first | refine blk_drewN ?_ _ | refine blk_drew ?_ | refine blk_alloc ?_ _));refine blk_put (cs:=#[.int .u64 0,.int .u64 0,.int .u64 0,.slice none 0 0,.slice none 0 0]) ?_ 0 _ rfl;(with_reducible repeat (first | refine blk_drewN ?_ _ | refine blk_drew ?_ | refine blk_alloc ?_ _));exact BK207.out) Tryd.underlying36 rfl (by kernel_rfl)) rfl ?_
       exact ⟨_,_,by first | rfl | (simp [errW_none,errW_some] <;> rfl) | (simp [*,errW_none,errW_some] <;> rfl),by (with_reducible repeat (first | apply Kd.R_alloc | apply Kd.R_drewN | apply Kd.R_drew));exact Kd.R_mono (Kd.R_far (p:=⟨gb207,4,none⟩) (Kd.R_far (p:=⟨gb207,3,none⟩) (Kd.R_far (p:=⟨gb207,2,none⟩) (Kd.R_far (p:=⟨gb207,1,none⟩) (Kd.R_far (p:=⟨gb207,0,none⟩) (Kd.R_types HO_209003.out BK207.out (by decide)) (fun _ hk=>hk.2) (.int .u64 a0_0)) (fun _ hk=>hk.2) (.int .u64 a0_1)) (fun _ hk=>hk.2) (.int .u64 a0_2)) (fun _ hk=>hk.2) (.slice Ao49 x209003_1.length co49)) (fun _ hk=>hk.2) (.slice Ao50 x209004_2.length co50)) (fun _ hk=>trivial),by (with_reducible repeat (first | apply Kd.R_alloc | apply Kd.R_drewN | apply Kd.R_drew));exact Kd.R_mono (Kd.R_far (p:=⟨gb207,4,none⟩) (Kd.R_far (p:=⟨gb207,3,none⟩) (Kd.R_far (p:=⟨gb207,2,none⟩) (Kd.R_far (p:=⟨gb207,1,none⟩) (Kd.R_far (p:=⟨gb207,0,none⟩) (Kd.R_types HO_209004.out BK207.out (by decide)) (fun _ hk=>hk.2) (.int .u64 a0_0)) (fun _ hk=>hk.2) (.int .u64 a0_1)) (fun _ hk=>hk.2) (.int .u64 a0_2)) (fun _ hk=>hk.2) (.slice Ao49 x209003_1.length co49)) (fun _ hk=>hk.2) (.slice Ao50 x209004_2.length co50)) (fun _ hk=>trivial),by repeat (first | (with_reducible first | exact HB.out | apply below_alloc | apply pw_below_drewN | apply below_drew1 | refine below_set ?_ GE206.out | refine below_set ?_ GE207.out | refine below_set ?_ GE208.out) | exact HB.out)⟩
end Go.Proofs.YteilnbnnhocciaaDoor.KV

/-! V13 -/
namespace Go.Proofs.YteilnbnnhocciaaDoor.V
open Go.RowKit Go.Proofs.YteilnbnnhocciaaDoorW.PrintWords Go.Proofs.YteilnbnnhocciaaDoorW.PrintMore Go.Proofs.YteilnbnnhocciaaDoorM Go.Proofs.YteilnbnnhocciaaDoor.KV
def c107 (a:S107):S114:=⟨a.f0,⟨a.f1.f0,a.f1.f1,a.f1.f2,a.f1.f3,a.f1.f4⟩⟩
def c111 (a:S111):S115:=⟨a.f0,a.f1⟩
theorem wrap_in {n:Int} (h1 : -9223372036854775808 ≤ n) (h2:n ≤ 9223372036854775807):wrap64 n = n:=IntWalk.wrap64_in n ⟨by omega,by omega⟩
theorem rd107 {l:List S107} {i:Nat} (h:i < l.length):rd_T107 l (i:Int) = l[i]:=by simp [rd_T107,List.getD,h]
theorem rd111 {l:List S111} {i:Nat} (h:i < l.length):rd_T111 l (i:Int) = l[i]:=by simp [rd_T111,List.getD,h]
theorem rd114c {l:List S107} {i:Nat} (h:i < l.length):rd_T114 (l.map c107) (i:Int) = c107 l[i]:=by simp [rd_T114,List.getD,h]
theorem rd115c {l:List S111} {i:Nat} (h:i < l.length):rd_T115 (l.map c111) (i:Int) = c111 l[i]:=by simp [rd_T115,List.getD,h]
theorem c107_0 (a:S107):(c107 a).f0 = a.f0:=rfl
theorem c107_1 (a:S107):(c107 a).f1.f0 = a.f1.f0:=rfl
theorem c107_2 (a:S107):(c107 a).f1.f1 = a.f1.f1:=rfl
theorem c107_3 (a:S107):(c107 a).f1.f2 = a.f1.f2:=rfl
theorem c107_4 (a:S107):(c107 a).f1.f3 = a.f1.f3:=rfl
theorem c107_5 (a:S107):(c107 a).f1.f4 = a.f1.f4:=rfl
theorem c111_0 (a:S111):(c111 a).f0 = a.f0:=rfl
theorem wr1 {i n:Nat} (h:i < n) (hn:n ≤ 9223372036854775807):wrap64 ((i:Int) + 1) = ((i + 1:Nat):Int):=by rw [wrap_in (by omega) (by omega)];omega
theorem wrong_val_eq (lv num:Int) (l m:ByteArray):edit_wrong.val lv num l m = if lv < 0 then 21 else if lv > 3 then 21 else if (l.size:Int) < 1 then 19 else if (l.size:Int) > 200 then 19 else if (m.size:Int) < 1 then 19 else if (m.size:Int) > 200 then 19 else if (Op.bytesLess m.toList l.toList) = true then 19 else if num = 0 then 8 else 0:=by
 unfold edit_wrong.val
 by_cases h1:lv < 0
 ·have hb:edit_levelB lv = false:=by simp [edit_levelB];omega
  rw [if_pos h1,if_pos hb]
 ·by_cases h2:lv > 3
  ·have hb:edit_levelB lv = false:=by simp [edit_levelB];omega
   rw [if_neg h1,if_pos h2,if_pos hb]
  ·have hb:¬ edit_levelB lv = false:=by simp [edit_levelB];omega
   rw [if_neg h1,if_neg h2,if_neg hb]
   by_cases h3:(l.size:Int) < 1
   ·have hk:edit_keyedB l = false:=by simp [edit_keyedB];omega
    rw [if_pos h3,if_pos (by rw [hk];simp)]
   ·by_cases h4:(l.size:Int) > 200
    ·have hk:edit_keyedB l = false:=by simp [edit_keyedB];omega
     rw [if_neg h3,if_pos h4,if_pos (by rw [hk];simp)]
    ·have hk:edit_keyedB l = true:=by simp [edit_keyedB];omega
     rw [if_neg h3,if_neg h4,hk]
     by_cases h5:(m.size:Int) < 1
     ·have hm:edit_keyedB m = false:=by simp [edit_keyedB];omega
      rw [if_pos h5,if_pos (by rw [hm];simp)]
     ·by_cases h6:(m.size:Int) > 200
      ·have hm:edit_keyedB m = false:=by simp [edit_keyedB];omega
       rw [if_neg h5,if_pos h6,if_pos (by rw [hm];simp)]
      ·have hm:edit_keyedB m = true:=by simp [edit_keyedB];omega
       rw [if_neg h5,if_neg h6,hm]
       by_cases h7:(Op.bytesLess m.toList l.toList) = true
       ·rw [if_pos h7,if_pos (by rw [h7];rfl)]
       ·have h7':Op.bytesLess m.toList l.toList = false:=by simpa using h7
        rw [if_neg h7,if_neg (by rw [h7'];simp)]
theorem check_l1 (k:Nat) (x20:List S114) (x21 x22 x y z:Int) (cc:List S114) (gg:List S115) (lv n1 n2 n3:Int) (l m:ByteArray) :
  bourseref12_Edit_Check.l1 (k + 3) x20 x21 x22 [l,m] (([l,m]:List ByteArray).length:Int) 0 x y z cc gg lv n1 n2 n3 l m =
   if (l.size:Int) < 1 then some 19 else if (l.size:Int) > 200 then some 19 else if (m.size:Int) < 1 then some 19 else if (m.size:Int) > 200 then some 19 else if (Op.bytesLess m.toList l.toList) = true then some 19 else if n1 = 0 then some 8 else bourseref12_Edit_Check.l0 k x20 x21 (wrap64 (x22 + 1)) x y z cc gg:=by
 have e0:rdOf ByteArray.empty [l,m] 0 = l:=rfl
 have e1:rdOf ByteArray.empty [l,m] 1 = m:=rfl
 have w0:wrap64 (0 + 1) = 1:=wrap_in (n:=0 + 1) (by decide) (by decide)
 have w1:wrap64 (1 + 1) = 2:=wrap_in (n:=1 + 1) (by decide) (by decide)
 have hl:(([l,m]:List ByteArray).length:Int) = 2:=rfl
 rw [hl,bourseref12_Edit_Check.l1,if_pos (by decide),if_pos (by decide),hl,if_pos (by decide),e0,w0]
 by_cases h3:(l.size:Int) < 1
 ·rw [if_pos h3,if_pos h3]
 ·by_cases h4:(l.size:Int) > 200
  ·rw [if_neg h3,if_pos h4,if_neg h3,if_pos h4]
  ·rw [if_neg h3,if_neg h4,if_neg h3,if_neg h4,bourseref12_Edit_Check.l1,if_pos (by decide),if_pos (by decide),hl,if_pos (by decide),e1,w1]
   by_cases h5:(m.size:Int) < 1
   ·rw [if_pos h5,if_pos h5]
   ·by_cases h6:(m.size:Int) > 200
    ·rw [if_neg h5,if_pos h6,if_neg h5,if_pos h6]
    ·rw [if_neg h5,if_neg h6,if_neg h5,if_neg h6,bourseref12_Edit_Check.l1,if_neg (by decide)]
theorem check_step (k i:Nat) (c:List S107) (x y z:Int) (cc:List S114) (gg:List S115) (hi:i < c.length) (hc:c.length ≤ 200) :
  bourseref12_Edit_Check.l0 (k + 5) (c.map c107) (c.length:Int) (i:Int) x y z cc gg = if edit_wrong.val c[i].f0 c[i].f1.f0 c[i].f1.f3 c[i].f1.f4 = 0 then bourseref12_Edit_Check.l0 k (c.map c107) (c.length:Int) ((i + 1:Nat):Int) x y z cc gg else some (edit_wrong.val c[i].f0 c[i].f1.f0 c[i].f1.f3 c[i].f1.f4):=by
 rw [bourseref12_Edit_Check.l0,if_pos (by omega),if_pos (by omega),if_pos (by rw [List.length_map];omega),rd114c hi]
 generalize hA:c[i] = a
 rw [c107_0,c107_1,c107_2,c107_3,c107_4,c107_5]
 rw [wrong_val_eq]
 by_cases h1:a.f0 < 0
 ·rw [if_pos h1,if_pos h1,bourseref12_Edit_Check.j2,if_pos rfl,if_neg (by decide)]
 ·rw [if_neg h1,if_neg h1,bourseref12_Edit_Check.j2]
  by_cases h2:a.f0 > 3
  ·rw [if_pos (by simpa using h2),if_pos h2,if_neg (by decide)]
  ·rw [if_neg (by simpa using h2),if_neg h2]
   simp only [Option.bind_some]
   rw [check_l1,wr1 hi (by omega)]
   by_cases h3:(a.f1.f3.size:Int) < 1
   ·rw [if_pos h3,if_pos h3,if_neg (by decide)]
   ·by_cases h4:(a.f1.f3.size:Int) > 200
    ·rw [if_neg h3,if_pos h4,if_neg h3,if_pos h4,if_neg (by decide)]
    ·by_cases h5:(a.f1.f4.size:Int) < 1
     ·rw [if_neg h3,if_neg h4,if_pos h5,if_neg h3,if_neg h4,if_pos h5,if_neg (by decide)]
     ·by_cases h6:(a.f1.f4.size:Int) > 200
      ·rw [if_neg h3,if_neg h4,if_neg h5,if_pos h6,if_neg h3,if_neg h4,if_neg h5,if_pos h6,if_neg (by decide)]
      ·by_cases h7:(Op.bytesLess a.f1.f4.toList a.f1.f3.toList) = true
       ·rw [if_neg h3,if_neg h4,if_neg h5,if_neg h6,if_pos h7,if_neg h3,if_neg h4,if_neg h5,if_neg h6,if_pos h7,if_neg (by decide)]
       ·by_cases h8:a.f1.f0 = 0
        ·rw [if_neg h3,if_neg h4,if_neg h5,if_neg h6,if_neg h7,if_pos h8,if_neg h3,if_neg h4,if_neg h5,if_neg h6,if_neg h7,if_pos h8,if_neg (by decide)]
        ·rw [if_neg h3,if_neg h4,if_neg h5,if_neg h6,if_neg h7,if_neg h8,if_neg h3,if_neg h4,if_neg h5,if_neg h6,if_neg h7,if_neg h8,if_pos rfl]
theorem goneB_eq (a:S111):edit_goneB a = (decide (a.f0 < 0) || decide (a.f0 > 3)):=by
 unfold edit_goneB edit_levelB
 by_cases h1:a.f0 < 0
 ·have:¬ (0 ≤ a.f0 ∧ a.f0 < 4):=by omega
  simp [h1,this]
 ·by_cases h2:a.f0 > 3
  ·have:¬ (0 ≤ a.f0 ∧ a.f0 < 4):=by omega
   simp [h1,h2,this]
  ·have:(0 ≤ a.f0 ∧ a.f0 < 4):=by omega
   simp [h1,h2,this]
theorem check_l2:∀ (d k i:Nat) (g:List S111),i + d = g.length → d < k → g.length ≤ 200 → bourseref12_Edit_Check.l2 k (g.map c111) (g.length:Int) (i:Int) = some (if (g.drop i).any edit_goneB then 21 else 0):=by
 intro d
 induction d with
 | zero=>
  intro k i g hi hk hg
  obtain ⟨k,rfl⟩:∃ k',k = k' + 1:=⟨k - 1,by omega⟩
  rw [bourseref12_Edit_Check.l2,if_neg (by omega),List.drop_of_length_le (by omega)]
  rfl
 | succ d ih=>
  intro k i g hi hk hg
  obtain ⟨k,rfl⟩:∃ k',k = k' + 1:=⟨k - 1,by omega⟩
  have hlt:i < g.length:=by omega
  rw [bourseref12_Edit_Check.l2,if_pos (by omega),if_pos (by omega),if_pos (by rw [List.length_map];omega),rd115c hlt,wr1 hlt (by omega),ih k (i + 1) g (by omega) (by omega) hg,List.drop_eq_getElem_cons hlt,List.any_cons,goneB_eq]
  generalize hA:g[i] = a
  rw [c111_0]
  by_cases h1:a.f0 < 0
  ·rw [if_pos h1];simp [h1]
  ·rw [if_neg h1]
   by_cases h2:a.f0 > 3
   ·rw [if_pos h2];simp [h2]
   ·rw [if_neg h2];simp [h1,h2]
theorem check_l0:∀ (d k i:Nat) (c:List S107) (g:List S111) (x y z:Int) (cc:List S114),i + d = c.length → 5 * d + g.length + 5 ≤ k → c.length ≤ 200 → g.length ≤ 200 →
  bourseref12_Edit_Check.l0 k (c.map c107) (c.length:Int) (i:Int) x y z cc (g.map c111) = some (if edit_firstWrong (c.drop i) ≠ 0 then edit_firstWrong (c.drop i) else if g.any edit_goneB then 21 else 0):=by
 intro d
 induction d with
 | zero=>
  intro k i c g x y z cc hi hk hc hg
  obtain ⟨k,rfl⟩:∃ k',k = k' + 1:=⟨k - 1,by omega⟩
  rw [bourseref12_Edit_Check.l0,if_neg (by omega),List.drop_of_length_le (by omega)]
  have:=check_l2 g.length k 0 g (by omega) (by omega) hg
  rw [List.length_map]
  rw [show ((0:Nat):Int) = 0 from rfl,List.drop_zero] at this
  rw [this]
  simp [edit_firstWrong]
 | succ d ih=>
  intro k i c g x y z cc hi hk hc hg
  obtain ⟨k,rfl⟩:∃ k',k = k' + 5:=⟨k - 5,by omega⟩
  have hlt:i < c.length:=by omega
  rw [check_step k i c x y z cc _ hlt hc,List.drop_eq_getElem_cons hlt,edit_firstWrong,ih k (i + 1) c g x y z cc (by omega) (by omega) hc hg]
  by_cases h:edit_wrong.val c[i].f0 c[i].f1.f0 c[i].f1.f3 c[i].f1.f4 = 0
  ·rw [if_pos h,if_pos h]
  ·rw [if_neg h,if_neg h,if_pos h]
theorem check_eq (k:Nat) (hk:2000 ≤ k) (x y z:Int) (c:List S107) (g:List S111):bourseref12_Edit_Check.f k x y z (c.map c107) (g.map c111) = some (edit_Edit_Check.val c g):=by
 obtain ⟨k,rfl⟩:∃ k',k = k' + 1:=⟨k - 1,by omega⟩
 unfold bourseref12_Edit_Check.f edit_Edit_Check.val
 rw [List.length_map,List.length_map]
 by_cases h1:(c.length:Int) > 200
 ·rw [if_pos h1,bourseref12_Edit_Check.j0,if_pos rfl,if_pos (.inl (by omega))]
 ·rw [if_neg h1,bourseref12_Edit_Check.j0]
  by_cases h2:(g.length:Int) > 200
  ·rw [if_pos (by simpa using h2),if_pos (.inr (by omega))]
  ·rw [if_neg (by simpa using h2),if_neg (by omega),List.length_map]
   have:=check_l0 c.length k 0 c g x y z (c.map c107) (by omega) (by omega) (by omega) (by omega)
   rw [show ((0:Nat):Int) = 0 from rfl,List.drop_zero] at this
   exact this
theorem to_l1:∀ (d k i:Nat) (g:List S111) (a b e:Int) (c:List S114) (acc:List S115),i + d = g.length → d < k → acc.length + d ≤ 1000000 → g.length ≤ 9223372036854775807 →
  bourselaw12_To.l1 k g (g.length:Int) (i:Int) a b e c acc = some (a,b,e,c,acc ++ (g.drop i).map c111):=by
 intro d
 induction d with
 | zero=>
  intro k i g a b e c acc hi hk hl hg
  obtain ⟨k,rfl⟩:∃ k',k = k' + 1:=⟨k - 1,by omega⟩
  rw [bourselaw12_To.l1,if_neg (by omega),List.drop_of_length_le (by omega)]
  simp
 | succ d ih=>
  intro k i g a b e c acc hi hk hl hg
  obtain ⟨k,rfl⟩:∃ k',k = k' + 1:=⟨k - 1,by omega⟩
  have hlt:i < g.length:=by omega
  rw [bourselaw12_To.l1,if_pos (by omega),if_pos (by omega),if_pos (by omega),if_pos (by omega),wr1 hlt hg,rd111 hlt,ih k (i + 1) g a b e c _ (by omega) (by omega) (by simp;omega) hg,List.drop_eq_getElem_cons hlt]
  simp only [List.append_assoc,List.map_cons,List.cons_append,List.nil_append];rfl
theorem to_l0:∀ (d k i:Nat) (c:List S107) (g:List S111) (x y z a b e:Int) (cc:List S107) (acc:List S114),i + d = c.length → d + g.length + 2 ≤ k → acc.length + d ≤ 1000000 → g.length ≤ 1000000 → c.length ≤ 9223372036854775807 →
  bourselaw12_To.l0 k c (c.length:Int) (i:Int) x y z cc g a b e acc = some (a,b,e,acc ++ (c.drop i).map c107,g.map c111):=by
 intro d
 induction d with
 | zero=>
  intro k i c g x y z a b e cc acc hi hk hl hg hc
  obtain ⟨k,rfl⟩:∃ k',k = k' + 1:=⟨k - 1,by omega⟩
  rw [bourselaw12_To.l0,if_neg (by omega),List.drop_of_length_le (by omega)]
  have:=to_l1 g.length k 0 g a b e acc [] (by omega) (by omega) (by simpa using hg) (by omega)
  rw [show ((0:Nat):Int) = 0 from rfl,List.drop_zero] at this
  rw [this]
  simp
 | succ d ih=>
  intro k i c g x y z a b e cc acc hi hk hl hg hc
  obtain ⟨k,rfl⟩:∃ k',k = k' + 1:=⟨k - 1,by omega⟩
  have hlt:i < c.length:=by omega
  rw [bourselaw12_To.l0,if_pos (by omega),if_pos (by omega),if_pos (by omega),if_pos (by omega),wr1 hlt hc,rd107 hlt,ih k (i + 1) c g x y z a b e cc _ (by omega) (by omega) (by simp;omega) hg hc,List.drop_eq_getElem_cons hlt]
  simp only [List.append_assoc,List.map_cons,List.cons_append,List.nil_append];rfl
theorem to_eq (k:Nat) (x y z:Int) (c:List S107) (g:List S111) (hc:c.length ≤ 1000000) (hg:g.length ≤ 1000000) (hk:c.length + g.length + 2 ≤ k):bourselaw12_To.f k x y z c g = some (x,y,z,c.map c107,g.map c111):=by
 unfold bourselaw12_To.f
 have:=to_l0 c.length k 0 c g x y z x y z c [] (by omega) hk (by simpa using hc) hg (by omega)
 rw [show ((0:Nat):Int) = 0 from rfl,List.drop_zero,List.nil_append] at this
 exact this
end Go.Proofs.YteilnbnnhocciaaDoor.V

/-! V14 -/
namespace Go.Proofs.YteilnbnnhocciaaDoor.V
open Go.Proofs Go.RowKit Go.BigFrame Go.Proofs.YteilnbnnhocciaaDoorM Go.Proofs.YteilnbnnhocciaaDoorW.PrintWords Go.Proofs.YteilnbnnhocciaaDoorW.PrintLast Go.Proofs.YteilnbnnhocciaaDoorW.PrintMore Go.Proofs.YteilnbnnhocciaaDoor.KV
theorem bl_lt:∀ x y:List UInt8,Op.bytesLess x y = true ↔ x < y
 | [],[]=>by simp [Op.bytesLess]
 | [],_ :: _=>by simp [Op.bytesLess]
 | _ :: _,[]=>by simp [Op.bytesLess]
 | a :: x,b :: y=>by
  rw [Op.bytesLess,List.cons_lt_cons_iff,← bl_lt x y]
  by_cases h1:a < b
  ·simp [h1]
  ·by_cases h2:a = b
   ·subst h2;simp [h1]
   ·simp [h1,h2]
def aheadB (lv:Nat) (a b:FileV):Bool:=if lv = 0 then decide (b.num < a.num) else Op.bytesLess a.least.toList b.least.toList || (a.least.toList == b.least.toList && decide (a.num < b.num))
theorem aheadB_eq (lv:Nat) (a b:FileV):aheadB lv a b = Go.Proofs.ltOf (ordL lv) a b:=by
 rw [Bool.eq_iff_iff]
 unfold aheadB ordL
 by_cases h:lv = 0
 ·rw [if_pos h,if_pos h,lt0_iff]
  simp
 ·rw [if_neg h,if_neg h,lt1_iff]
  simp only [Bool.or_eq_true,Bool.and_eq_true,beq_iff_eq,decide_eq_true_eq,ByteArray.toList_eq,bl_lt]
theorem ahead_on (lv:Nat) (a b:FileV) (w:World):Calls Tryd.prog 98 #[.int .i64 lv,fileVal a,fileVal b] w fun e w'=>e = .returned (.bool (aheadB lv a b)) ∧ Grown w w':=by
 obtain ⟨a0,a1,a2,a3,a4⟩:=a
 obtain ⟨b0,b1,b2,b3,b4⟩:=b
 simp only [fileVal,fileCells,aheadB]
 by_cases h:lv = 0
 ·subst h
  go_enter Tryd.func98,Tryd.ntmps98
  go_wp2
  go_ret
  exact ⟨by simp,((Grown.refl w).alloc _).alloc _⟩
 ·have hz:(((lv:Nat):Int) == 0) = false:=by simpa using h
  rw [if_neg h]
  by_cases h1:Op.bytesLess a3.toList b3.toList = true
  ·have h1':=h1
   go_enter Tryd.func98,Tryd.ntmps98
   go_wp2
   go_ret
   exact ⟨by simp [h1],((Grown.refl w).alloc _).alloc _⟩
  ·have h1':Op.bytesLess a3.toList b3.toList = false:=by simpa using h1
   by_cases h2:a3.toList = b3.toList
   ·have h2':(a3.toList == b3.toList) = true:=by simpa using h2
    have H2:=Hush.mk h2
    clear h2 h1
    go_enter Tryd.func98,Tryd.ntmps98
    go_wp2
    go_ret
    exact ⟨by simp [h1',h2'],((Grown.refl w).alloc _).alloc _⟩
   ·have h2':(a3.toList == b3.toList) = false:=by simpa using h2
    clear h2 h1
    go_enter Tryd.func98,Tryd.ntmps98
    go_wp2
    go_ret
    exact ⟨by simp [h1',h2'],((Grown.refl w).alloc _).alloc _⟩
def stepOk (lv:Nat):Option FileV → FileV → Bool
 | none,_=>true
 | some p,f=>aheadB lv p f && (decide (lv = 0) || Op.bytesLess p.most.toList f.least.toList)
def filesR (lv:Nat):List Int → Option FileV → List FileV → Bool
 | _,_,[]=>true
 | S,p,f :: r=>((okB lv f && !S.contains f.num) && stepOk lv p f) && filesR lv (f.num :: S) (some f) r
theorem stepOk_eq (lv:Nat) (p f:FileV):stepOk lv (some p) f = stepB lv p f:=by
 show (aheadB lv p f && (decide (lv = 0) || Op.bytesLess p.most.toList f.least.toList)) = _
 unfold stepB
 rw [aheadB_eq]
 by_cases h:lv = 0
 ·subst h
  simp [ordL,Go.Proofs.ltOf]
 ·have h':¬ ((lv:Nat):Int) = 0:=by omega
  rw [if_neg h']
  simp [ordL,Go.Proofs.ltOf,h]
theorem filesR_some (lv:Nat):∀ (L:List FileV) (S:List Int) (p:FileV),filesR lv S (some p) L = (filesB lv S L && risesB lv (p :: L))
 | [],S,p=>rfl
 | f :: r,S,p=>by
  rw [filesR,filesR_some lv r,stepOk_eq,filesB,risesB]
  cases okB lv f <;> cases S.contains f.num <;> cases stepB lv p f <;> cases filesB lv (f.num :: S) r <;> rfl
theorem filesR_none (lv:Nat):∀ (L:List FileV) (S:List Int),filesR lv S none L = (filesB lv S L && risesB lv L)
 | [],S=>rfl
 | f :: r,S=>by
  rw [filesR,filesR_some lv r,filesB,stepOk]
  cases okB lv f <;> cases S.contains f.num <;> cases filesB lv (f.num :: S) r <;> cases risesB lv (f :: r) <;> rfl
theorem one_row14 (x:S114) (b:Nat) (w:World) (h0:w.cell? ⟨b,0,none⟩ = some (.int .i64 x.f0)) (h1:w.cell? ⟨b,1,none⟩ = some (.int .u64 x.f1.f0)) (h2:w.cell? ⟨b,2,none⟩ = some (.int .u64 x.f1.f1)) (h3:w.cell? ⟨b,3,none⟩ = some (.int .u64 x.f1.f2)) (h4:w.cell? ⟨b,4,none⟩ = some (.string x.f1.f3)) (h5:w.cell? ⟨b,5,none⟩ = some (.string x.f1.f4)) :
  Kd.C k114 w (some ⟨b,0,none⟩) [x].length [x]:=by
 refine ⟨rfl,by rw [List.length_singleton];omega,fun _=>⟨⟨b,0,none⟩,rfl,fun j p hj=>?_⟩⟩
 match j,hj with
 | 0,hj=>
  obtain rfl:=Option.some.inj hj
  refine ⟨_,rfl,k114_mk w _,fun i u hu=>?_⟩
  match i,hu with
  | 0,hu=>obtain rfl:=Option.some.inj hu;exact h0
  | 1,hu=>obtain rfl:=Option.some.inj hu;exact h1
  | 2,hu=>obtain rfl:=Option.some.inj hu;exact h2
  | 3,hu=>obtain rfl:=Option.some.inj hu;exact h3
  | 4,hu=>obtain rfl:=Option.some.inj hu;exact h4
  | 5,hu=>obtain rfl:=Option.some.inj hu;exact h5
 | j + 1,hj=>simp at hj
theorem refcheck_one (x:S107) (b:Nat) (w:World) (h0:w.cell? ⟨b,0,none⟩ = some (.int .i64 x.f0)) (h1:w.cell? ⟨b,1,none⟩ = some (.int .u64 x.f1.f0)) (h2:w.cell? ⟨b,2,none⟩ = some (.int .u64 x.f1.f1)) (h3:w.cell? ⟨b,3,none⟩ = some (.int .u64 x.f1.f2)) (h4:w.cell? ⟨b,4,none⟩ = some (.string x.f1.f3)) (h5:w.cell? ⟨b,5,none⟩ = some (.string x.f1.f4)) :
  Calls Tryd.prog 21 #[.agg #[.int .u64 0,.int .u64 0,.int .u64 0,.slice (some ⟨b,0,none⟩) 1 1,.slice none 0 0]] w fun e w'=>e = .returned (.int .i64 (edit_wrong.val x.f0 x.f1.f0 x.f1.f3 x.f1.f4)) ∧ Below w.heap.size w w':=by
 have e:bourseref12_Edit_Check.f 2000 0 0 0 [c107 x] [] = some (edit_wrong.val x.f0 x.f1.f0 x.f1.f3 x.f1.f4):=by
  have h:=check_eq 2000 (Nat.le_refl _) 0 0 0 [x] []
  have h':=check_val x
  rw [show edit_Edit_Check.f 0 0 0 [x] [] = some (edit_Edit_Check.val [x] []) from rfl] at h'
  rw [Option.some.inj h'] at h
  exact h
 exact bourseref12_Edit_Check.calls 2000 0 0 0 (some ⟨b,0,none⟩) 1 [c107 x] none 0 [] _ w (one_row14 (c107 x) b w h0 h1 h2 h3 h4 h5) (Nat.le_refl _) (Kd.C_nil _ _) (Nat.le_refl _) e
end Go.Proofs.YteilnbnnhocciaaDoor.V

/-! V15 -/
namespace Go.Proofs.YteilnbnnhocciaaDoor.V
open Go.Proofs Go.RowKit Go.BigFrame Go.Proofs.YteilnbnnhocciaaDoorM Go.Proofs.YteilnbnnhocciaaDoorW.PrintWords Go.Proofs.YteilnbnnhocciaaDoorW.PrintLast Go.Proofs.YteilnbnnhocciaaDoorW.PrintMore Go.Proofs.YteilnbnnhocciaaDoor.KV
attribute [local go_sem] gtr_run leq_run geq_run Int.add_sub_cancel
theorem info22':(Tryd.prog.info? 22).map (fun i=>(i.zero,i.size,i.bytes)) = some (some (.int .u64 0),1,8):=by kernel_rfl
theorem refcheck_new (lv f0 f1 f2:Int) (f3 f4:ByteArray) (W:World) (t t':TypeId) (c':Array Value) (b:Nat) (hb:b = W.heap.size) (r:Int) (hr:r = edit_wrong.val lv f0 f3 f4) :
  Calls Tryd.prog 21 #[.agg #[.int .u64 0,.int .u64 0,.int .u64 0,.slice (some ⟨b,0,none⟩) 1 1,.slice none 0 0]] ((W.alloc (.cells #[.int .i64 lv,.int .u64 f0,.int .u64 f1,.int .u64 f2,.string f3,.string f4] t)).alloc (.cells c' t')) fun e w'=>
   e = .returned (.int .i64 r) ∧ Below ((W.alloc (.cells #[.int .i64 lv,.int .u64 f0,.int .u64 f1,.int .u64 f2,.string f3,.string f4] t)).alloc (.cells c' t')).heap.size ((W.alloc (.cells #[.int .i64 lv,.int .u64 f0,.int .u64 f1,.int .u64 f2,.string f3,.string f4] t)).alloc (.cells c' t')) w':=by
 rw [hr]
 have up:∀ i v,(#[Value.int .i64 lv,.int .u64 f0,.int .u64 f1,.int .u64 f2,.string f3,.string f4]:Array Value)[i]? = some v → ((W.alloc (.cells #[.int .i64 lv,.int .u64 f0,.int .u64 f1,.int .u64 f2,.string f3,.string f4] t)).alloc (.cells c' t')).cell? ⟨b,i,none⟩ = some v:=fun i v h=>by
  have e:=six_at W _ _ _ _ _ _ t b hb i v h
  exact (((Below.refl _ _).alloc (Nat.le_refl _) _).cell (World.block_lt_of_cell? _ _ e)).trans e
 exact refcheck_one ⟨lv,⟨f0,f1,f2,f3,f4⟩⟩ b _ (up 0 _ rfl) (up 1 _ rfl) (up 2 _ rfl) (up 3 _ rfl) (up 4 _ rfl) (up 5 _ rfl)
structure RefSt (w1:World) (A:Option Addr) (c:Nat) (S:List Int) (wr:World):Prop where
 below:Below w1.heap.size w1 wr
 seen:wr.ownsRow w1.heap.size 22 1 (.slice A S.length c) S.length (S.reverse.map (Value.int .u64))
theorem ownsRow_keep {w w':World} {base:Nat} {e:TypeId} {size n:Nat} {v:Value} {xs:List Value} (h:w.ownsRow base e size v n xs) (hb:Below w.heap.size w w'):w'.ownsRow base e size v n xs:=by
 refine ⟨h.1,h.2.imp id ?_⟩
 rintro ⟨g,cap,cur,h1,h2,h3,h4⟩
 exact ⟨g,cap,cur,h1,h2,(hb.block g (Array.getElem?_eq_some_iff.1 h3).1).trans h3,h4⟩
theorem RefSt.step {w1 wr w':World} {A:Option Addr} {c:Nat} {S:List Int} (h:RefSt w1 A c S wr) (hb:Below wr.heap.size wr w'):RefSt w1 A c S w':=
 ⟨h.below.trans (hb.mono h.below.size),ownsRow_keep h.seen hb⟩
theorem RefSt.at_ {w1 wr:World} {A:Option Addr} {c:Nat} {S:List Int} (h:RefSt w1 A c S wr) (i:Nat) (hi:i < S.length):∃ g,A = some ⟨g,0,none⟩ ∧ wr.cell? ⟨g,i,none⟩ = some (.int .u64 (S.reverse[i]'(by simpa using hi))):=by
 rcases h.seen.2 with ⟨h1,h2⟩ | ⟨g,cap,cur,h1,h2,h3,h4,h5,h6,h7⟩
 ·omega
 ·injection h1 with h1 _ _
  refine ⟨g,h1,?_⟩
  have e:(S.reverse.map (Value.int .u64))[i]? = some (.int .u64 (S.reverse[i]'(by simpa using hi))):=by
   rw [List.getElem?_map,List.getElem?_eq_getElem (by simpa using hi)]
   rfl
  rw [← h7,List.getElem?_take_of_lt (by omega)] at e
  simp only [World.cell?,h3]
  simpa using e
theorem RefSt.block {w1 wr:World} {A:Option Addr} {c:Nat} {S:List Int} (h:RefSt w1 A c S wr) (g:Nat) (hg:(Value.slice A S.length c).ownBlock = some g):w1.heap.size ≤ g ∧ g < wr.heap.size:=by
 rcases h.seen.2 with ⟨h1,h2⟩ | ⟨g',cap,cur,h1,h2,h3,h4⟩
 ·rw [h1] at hg;cases hg
 ·rw [h1] at hg
  cases hg
  exact ⟨h2,(Array.getElem?_eq_some_iff.1 h3).1⟩
theorem RefSt.more {w1 wr w':World} {A:Option Addr} {c:Nat} {S:List Int} {x:Int} {v':Value} {o:Obj} (h:RefSt w1 A c S wr) (hown:w'.ownsRow w1.heap.size 22 1 v' (S.length + 1) (S.reverse.map (Value.int .u64) ++ [.int .u64 x])) (hg:(wr.alloc o).grownBy w' (Value.slice A S.length c).ownBlock) :
  (∃ A' c',v' = .slice A' (x :: S).length c' ∧ RefSt w1 A' c' (x :: S) w'):=by
 have hb:Below w1.heap.size w1 w':=(h.below.alloc h.below.size _).grown hg (by show _ ≤ (Array.push _ _).size;rw [Array.size_push];have:=h.below.size;omega) (fun k hk=>(h.block k hk).1)
 have e:(x :: S).reverse.map (Value.int .u64) = S.reverse.map (Value.int .u64) ++ [.int .u64 x]:=by simp
 rcases hown.2 with ⟨h1,h2⟩ | ⟨g,cap,cur,h1,_⟩
 ·omega
 ·exact ⟨some ⟨g,0,none⟩,cap,h1,hb,by rw [e,List.length_cons,← h1];exact hown⟩
theorem FileAt.of_block {w w':World} {p:Addr} {f:FileV} (h:FileAt w p f) (hb:w'.heap[p.block]? = w.heap[p.block]?):FileAt w' p f:=
 have up:∀ i v,w.cell? ⟨p.block,i,none⟩ = some v → w'.cell? ⟨p.block,i,none⟩ = some v:=fun i v e=>(World.cell?_of_block (a:=⟨p.block,i,none⟩) hb).trans e
 ⟨(World.cell?_of_block hb).trans h.1,up _ _ h.2.1,up _ _ h.2.2.1,up _ _ h.2.2.2.1,up _ _ h.2.2.2.2⟩
theorem fileAt_new (W:World) (f:FileV) (t:TypeId):FileAt (W.alloc (.cells (fileCells f) t)) ⟨W.heap.size,0,none⟩ f:=by
 have e:=World.alloc_heap_new W (.cells (fileCells f) t)
 unfold FileAt
 simp only [World.cell?,e]
 exact ⟨rfl,rfl,rfl,rfl,rfl⟩
theorem size_alloc (W:World) (o:Obj):(W.alloc o).heap.size = W.heap.size + 1:=by
 show (Array.push _ _).size = _
 rw [Array.size_push]
theorem after3 {wr w3:World} {f:FileV} {t1:TypeId} {o2 o3:Obj} (h:Below (((wr.alloc (.cells (fileCells f) t1)).alloc o2).alloc o3).heap.size (((wr.alloc (.cells (fileCells f) t1)).alloc o2).alloc o3) w3) :
  Below wr.heap.size wr w3 ∧ FileAt w3 ⟨wr.heap.size,0,none⟩ f ∧ wr.heap.size < w3.heap.size:=by
 have z1:=size_alloc wr (.cells (fileCells f) t1)
 have z2:=size_alloc (wr.alloc (.cells (fileCells f) t1)) o2
 have z3:=size_alloc ((wr.alloc (.cells (fileCells f) t1)).alloc o2) o3
 refine ⟨((((Below.refl _ _).alloc (Nat.le_refl _) _).alloc (by omega) _).alloc (by omega) _).trans (h.mono (by omega)),?_,by have:=h.size;omega⟩
 have e1:=fileAt_new wr f t1
 have e2:=e1.below (((Below.refl (wr.alloc (.cells (fileCells f) t1)).heap.size _).alloc (Nat.le_refl _) o2).alloc (by omega) o3)
 exact e2.below h
theorem file_more {W w5:World} {v:Value} {fb:Nat} {f:FileV} (hg:W.grownBy w5 v.ownBlock) (hold:∀ g,v.ownBlock = some g → g < fb) (hfb:fb < W.heap.size) (h:FileAt W ⟨fb,0,none⟩ f):FileAt w5 ⟨fb,0,none⟩ f:=
 h.of_block (hg.block fb hfb (fun e=>by have:=hold fb e.symm;omega))
def prevOf (L:List FileV) (k:Nat):Option FileV:=if k = 0 then none else L[k - 1]?
def refJ (w1:World) (Ls:List (List FileV)) (j:Nat) (A:Option Addr) (c:Nat) (S:List Int) (wr:World):Prop:=
 rightB Ls = rightL j S (Ls.drop j) ∧ RefSt w1 A c S wr ∧ S.length ≤ j * 1000000
def refK (w1:World) (Ls:List (List FileV)) (j:Nat) (L:List FileV) (k:Nat) (A:Option Addr) (c:Nat) (S:List Int) (wr:World):Prop:=
 rightB Ls = (filesR j S (prevOf L k) (L.drop k) && rightL (j + 1) (seenOf S (L.drop k)) (Ls.drop (j + 1))) ∧ RefSt w1 A c S wr ∧ S.length ≤ j * 1000000 + k
set_option maxHeartbeats 8000000 in
set_option maxRecDepth 100000 in
theorem refRight_on (A0 A1 A2 A3:Option Addr) (L0 L1 L2 L3:List FileV) (c0 c1 c2 c3:Nat) (w:World) (h0:LevelIn w A0 L0) (h1:LevelIn w A1 L1) (h2:LevelIn w A2 L2) (h3:LevelIn w A3 L3) :
  Calls Tryd.prog 45 #[.agg #[.slice A0 L0.length c0,.slice A1 L1.length c1,.slice A2 L2.length c2,.slice A3 L3.length c3]] w fun e w'=>e = .returned (.bool (rightB [L0,L1,L2,L3])) ∧ Below w.heap.size w w':=by
 obtain ⟨Ls,hLs⟩:∃ Ls,Ls = [L0,L1,L2,L3]:=⟨_,rfl⟩
 obtain ⟨w1,hw1⟩:∃ w1,w1 = w.alloc (.cells #[.slice A0 L0.length c0,.slice A1 L1.length c1,.slice A2 L2.length c2,.slice A3 L3.length c3] 83):=⟨_,rfl⟩
 have HB1:Hush (Below w.heap.size w w1):=⟨by rw [hw1];exact (Below.refl _ _).alloc (Nat.le_refl _) _⟩
 have HLv:Hush (∀ j,j < 4 → ∃ L A c,Ls[j]? = some L ∧ LevelIn w A L ∧ w1.cell? ⟨w.heap.size,j,none⟩ = some (.slice A L.length c)):=⟨by
  intro j hj
  have e:=World.alloc_heap_new w (.cells #[.slice A0 L0.length c0,.slice A1 L1.length c1,.slice A2 L2.length c2,.slice A3 L3.length c3] 83)
  rw [hLs,hw1]
  simp only [World.cell?,e]
  have:j = 0 ∨ j = 1 ∨ j = 2 ∨ j = 3:=by omega
  rcases this with rfl | rfl | rfl | rfl
  ·exact ⟨_,_,_,rfl,h0,rfl⟩
  ·exact ⟨_,_,_,rfl,h1,rfl⟩
  ·exact ⟨_,_,_,rfl,h2,rfl⟩
  ·exact ⟨_,_,_,rfl,h3,rfl⟩⟩
 have HW1:=Hush.mk hw1
 have HL4:Hush (Ls.length = 4):=⟨by rw [hLs];rfl⟩
 rw [← hLs]
 clear hLs h0 h1 h2 h3
 obtain ⟨i0,hi,hz0,hz1,hz2⟩:=info_parts info22'
 have mixed:Tryd.prog.follows .mixedOrders = true:=by kernel_rfl
 go_enter Tryd.func45,Tryd.ntmps45
 go_wp2
 rw [← hw1]
 clear hw1
 go_loopw [3,4] (fun sv iv wr=>∃ (j:Nat) (A:Option Addr) (c:Nat) (S:List Int),iv = .int .i64 j ∧ sv = .slice A S.length c ∧ j ≤ 4 ∧ Hush (refJ w1 Ls j A c S wr)) (fun _ iv _=>4 - (intOf iv).toNat)
 case atStart=>exact ⟨0,none,0,[],by go_num,rfl,by omega,⟨rfl,⟨Below.refl _ _,⟨rfl,.inl ⟨rfl,rfl⟩⟩⟩,by simp⟩⟩
 case round=>
  obtain ⟨j,A,c,S,rfl,rfl,hj4,HJ⟩:=hrel
  by_cases hlt:j < 4
  ·obtain ⟨L,AL,cL,hL,hin,hcell⟩:=HLv.out j hlt
   have hltz:(j:Int) < 4:=by omega
   have hc:=(HJ.out.2.1.below.cell (World.block_lt_of_cell? _ _ hcell)).trans hcell
   have HIN:=Hush.mk hin
   have HD:Hush (Ls.drop j = L :: Ls.drop (j + 1)):=⟨by
    obtain ⟨h1,e1⟩:=List.getElem?_eq_some_iff.1 hL
    rw [List.drop_eq_getElem_cons h1,e1]⟩
   have HK0:Hush (refK w1 Ls j L 0 A c S wr):=⟨by
    obtain ⟨g1,g2,g3⟩:=HJ.out
    refine ⟨g1.trans ?_,g2,Nat.le_trans g3 (Nat.le_add_right _ _)⟩
    rw [HD.out,List.drop_zero,rightL,prevOf,if_pos rfl,filesR_none]⟩
   clear HJ hL hcell hin
   go_wp2
   go_loopw [3,21] (fun sv iv wr=>∃ (k:Nat) (A:Option Addr) (c:Nat) (S:List Int),iv = .int .i64 k ∧ sv = .slice A S.length c ∧ k ≤ L.length ∧ Hush (refK w1 Ls j L k A c S wr)) (fun _ iv _=>L.length - (intOf iv).toNat)
   case atStart=>exact ⟨0,A,c,S,by go_num,rfl,by omega,HK0⟩
   case round=>
    obtain ⟨k,A,c,S,rfl,rfl,hk,HK⟩:=hrel
    by_cases hlt2:k < L.length
    ·have hlt2z:(k:Int) < (L.length:Int):=by omega
     obtain ⟨f,hf⟩:∃ f,L[k]? = some f:=⟨_,List.getElem?_eq_getElem hlt2⟩
     obtain ⟨ad,rfl,hat⟩:=HIN.out.at_ (by omega)
     have hsh:=HIN.out.short
     obtain ⟨g1,g2,g3⟩:=HK.out
     have hbw:Below w.heap.size w wr:=HB1.out.trans (g2.below.mono HB1.out.size)
     have hA:=(hat k f hf).below hbw
     have hkz:(k:Int) + 1 ≤ 1000000:=by omega
     have hSz:S.length < 10000000:=by omega
     have G3:Hush (S.length + 1 ≤ j * 1000000 + (k + 1)):=⟨by omega⟩
     have G2:=Hush.mk g2
     obtain ⟨b,hb⟩:∃ b,b = S.contains f.num:=⟨_,rfl⟩
     obtain ⟨r,hr⟩:∃ r,r = edit_wrong.val j f.num f.least f.most:=⟨_,rfl⟩
     obtain ⟨s,hs⟩:∃ s,s = stepOk j (prevOf L k) f:=⟨_,rfl⟩
     have HN:Hush (rightB Ls = ((((decide (r = 0) && !b) && s) && filesR j (f.num :: S) (some f) (L.drop (k + 1))) && rightL (j + 1) (seenOf (f.num :: S) (L.drop (k + 1))) (Ls.drop (j + 1)))):=⟨by
      obtain ⟨q1,q2⟩:=List.getElem?_eq_some_iff.1 hf
      rw [g1,hb,hr,hs,List.drop_eq_getElem_cons q1,q2]
      rfl⟩
     have HPV:Hush (prevOf L (k + 1) = some f):=⟨by rw [prevOf,if_neg (by omega)];exact hf⟩
     have HAT:Hush (∀ i x,L[i]? = some x → FileAt w (ad.add (i * 5)) x):=⟨hat⟩
     have HBN:=Hush.mk hb
     have HSN:=Hush.mk hs
     have HR:=Hush.mk hr
     clear g1 g2 g3 hat hf HK hb hr hs hbw hsh
     obtain ⟨f0,f1,f2,f3,f4⟩:=f
     simp only [FileAt] at hA
     obtain ⟨x0,x1,x2,x3,x4⟩:=hA
     by_cases hr0:r = 0
     ·subst hr0
      go_wp2_with (go_at_call 21;refine (refcheck_new _ _ _ _ _ _ _ _ _ _ _ (by simp) _ HR.out).mono ?_;rintro e w3 ⟨rfl,hb3⟩;have HB3:=Hush.mk (after3 (f:=⟨f0,f1,f2,f3,f4⟩) hb3);clear hb3)
      have H3:=Hush.mk (G2.out.step HB3.out.1)
      have HF3:=Hush.mk HB3.out.2.1
      have hq:w3.cell? ⟨wr.heap.size,0,none⟩ = some (.int .u64 f0):=HB3.out.2.1.1
      go_loopw [36] (fun iv wx=>∃ i:Nat,iv = .int .i64 i ∧ i ≤ S.length ∧ Hush (wx = w3 ∧ ∀ t (ht:t < S.reverse.length),t < i → S.reverse[t] ≠ f0)) (fun iv _=>S.length - (intOf iv).toNat)
      case atStart=>exact ⟨0,by go_num,by omega,⟨rfl,fun t ht h=>by omega⟩⟩
      case round=>
       obtain ⟨i,rfl,hi4,HX⟩:=hrel
       obtain ⟨hwx,hne⟩:=HX.out
       subst hwx
       have HNE:=Hush.mk hne
       clear HX hne
       by_cases hlt3:i < S.length
       ·have hlt3z:(i:Int) < (S.length:Int):=by omega
        have hiz:(i:Int) + 1 ≤ 10000000:=by omega
        obtain ⟨g,hg,hcx⟩:=H3.out.at_ i hlt3
        have hrl:i < S.reverse.length:=by simpa using hlt3
        obtain ⟨x,hx⟩:∃ x,x = S.reverse[i]:=⟨_,rfl⟩
        rw [← hx] at hcx
        have HX:=Hush.mk hx
        subst hg
        clear hx
        by_cases hxe:x = f0
        ·subst hxe
         have HRES:Hush (rightB Ls = false):=⟨by
          have:S.contains x = true:=by
           rw [List.contains_iff_mem]
           have:=List.getElem_mem hrl
           rw [← HX.out] at this
           simpa using this
          rw [HN.out,HBN.out,this]
          simp⟩
         go_wp2
         go_ret
         exact ⟨congrArg (fun b=>Ending.returned (Value.bool b)) HRES.out.symm,HB1.out.trans (H3.out.below.mono HB1.out.size)⟩
        ·have hxb:(x == f0) = false:=by simpa using hxe
         have HXE:=Hush.mk hxe
         clear hxe
         go_wp2
         go_roundw
         case rel=>exact ⟨i + 1,by go_num,by omega,⟨by first | rfl | trivial,fun t ht h=>by
          by_cases e:t = i
          ·subst e;rw [← HX.out];exact HXE.out
          ·exact HNE.out t ht (by omega)⟩⟩
         case measure=>simp [intOf];omega
       ·obtain rfl:i = S.length:=by omega
        have HBF:Hush (b = false):=⟨by
         rw [HBN.out]
         cases hcs:S.contains f0 with
         | false=>rfl
         | true=>
          rw [List.contains_iff_mem,← List.mem_reverse] at hcs
          obtain ⟨t,ht,e⟩:=List.getElem_of_mem hcs
          exact absurd e (HNE.out t ht (by simpa using ht))⟩
        clear hlt3
        go_wp2_with (at_builtin;refine wpList_append_own_at _ rfl _ _ 163 rfl w1.heap.size 22 i0 (.int .u64 0) 1 8 Tryd.underlying163 hi hz0 hz1 hz2 rfl (by decide) (.slice A S.length c) _ _ rfl (ownsRow_keep H3.out.seen ((Below.refl _ _).alloc (Nat.le_refl _) _)) ⟨_,0,none⟩ 1 1 [.int .u64 f0] rfl rfl (cell_one_new _ _ _) (ints_oneCell .u64 [f0]) (by unfold maxLen;omega) (by omega) (by rw [size_alloc];have:=H3.out.below.size;omega) ?_;intro v' w5 hown' hg' hnil hloc)
        obtain ⟨A5,c5,rfl,hst5⟩:=H3.out.more hown' hg'
        have H5:=Hush.mk hst5
        have hF5:=file_more (v:=.slice A S.length c) hg' (fun g h=>(G2.out.block g h).2) (by rw [size_alloc];have:=HB3.out.2.2;omega) (HF3.out.below ((Below.refl _ _).alloc (Nat.le_refl _) _))
        have HF5:=Hush.mk hF5
        clear hown' hg' hnil hloc hst5 hF5 hq
        by_cases hk0:k = 0
        ·subst hk0
         have HSV:Hush (s = true):=⟨by rw [HSN.out,prevOf,if_pos rfl];rfl⟩
         go_wp2_with fail
         refine wp_region_quiet_grown mixed (by kernel_rfl) ?_
         repeat (go_big_quiet_step (fail))
         refine wpQuiet_nil ?_
         intro _ hw'
         obtain ⟨⟨nq,osq⟩,hw''⟩:=hw'
         subst hw''
         have H6:=Hush.mk (H5.out.step ((Grown.refl w5).grow nq osq).below)
         generalize Go.Sort.grow (w5.drewN (GrownBy.mk nq osq).n) (GrownBy.mk nq osq).os = w6 at H6 ⊢
         go_wp2_with fail
         refine wp_region_quiet_grown mixed (by kernel_rfl) ?_
         repeat (go_big_quiet_step (fail))
         refine wpQuiet_nil ?_
         intro _ hw'
         obtain ⟨⟨nq2,osq2⟩,hw''⟩:=hw'
         subst hw''
         have H7:=Hush.mk (H6.out.step ((Grown.refl w6).grow nq2 osq2).below)
         generalize Go.Sort.grow (w6.drewN (GrownBy.mk nq2 osq2).n) (GrownBy.mk nq2 osq2).os = w7 at H7 ⊢
         go_wp2
         go_roundw
         case rel=>exact ⟨0 + 1,A5,c5,f0 :: S,by go_num,by first | rfl | trivial,by omega,⟨by rw [HN.out,HBF.out,HSV.out,HPV.out];simp,H7.out,G3.out⟩⟩
         case measure=>simp [intOf];omega
        ·obtain ⟨q,hq⟩:∃ q,q + 1 = k:=⟨k - 1,by omega⟩
         obtain ⟨p,hp⟩:∃ p,L[q]? = some p:=⟨_,List.getElem?_eq_getElem (by omega)⟩
         have hkz0:(0:Int) < (k:Int):=by omega
         have hkn:0 < k:=by omega
         have hqz:(k:Int) - 1 = (q:Int):=by omega
         have hqw:IntKind.i64.wrap ((k:Int) - 1) = (q:Int):=by rw [hqz];exact IntWalk.i64_in _ (by omega)
         have hqb:(q:Int) < (L.length:Int):=by omega
         have hbw5:Below w.heap.size w w5:=HB1.out.trans (H5.out.below.mono HB1.out.size)
         have hP:=(HAT.out q p hp).below hbw5
         have hF:=HF5.out
         obtain ⟨ah,hah⟩:∃ ah,ah = aheadB j p ⟨f0,f1,f2,f3,f4⟩:=⟨_,rfl⟩
         obtain ⟨m,hm⟩:∃ m,m = Op.bytesLess p.most.toList f3.toList:=⟨_,rfl⟩
         have HSV:Hush (s = (ah && (decide (j = 0) || m))):=⟨by
          rw [HSN.out,prevOf,if_neg hk0,show k - 1 = q by omega,hp,hah,hm]
          rfl⟩
         have HCA:Hush (∀ W,Calls Tryd.prog 98 #[.int .i64 j,fileVal p,fileVal ⟨f0,f1,f2,f3,f4⟩] W fun e w'=>e = .returned (.bool ah) ∧ Grown W w'):=⟨fun W=>by rw [hah];exact ahead_on j p _ W⟩
         have HP5:=Hush.mk hP
         replace hm:=hm.symm
         clear hah hp hq hbw5 hk0
         obtain ⟨p0,p1,p2,p3,p4⟩:=p
         simp only [fileVal,fileCells,FileAt] at hP hF HCA
         simp only at hm
         obtain ⟨y0,y1,y2,y3,y4⟩:=hP
         obtain ⟨z0,z1,z2,z3,z4⟩:=hF
         replace y0:=grown_cell y0
         replace y1:=grown_cell y1
         replace y2:=grown_cell y2
         replace y3:=grown_cell y3
         replace y4:=grown_cell y4
         replace z0:=grown_cell z0
         replace z1:=grown_cell z1
         replace z2:=grown_cell z2
         replace z3:=grown_cell z3
         replace z4:=grown_cell z4
         cases ah
         ·go_wp2_with fail
          refine wp_region_quiet_grown mixed (by kernel_rfl) ?_
          repeat (go_big_quiet_step (first | (go_at_call 98;exact Calls.grown_of (HCA.out _))))
          refine wpQuiet_nil ?_
          intro _ hw'
          obtain ⟨⟨nq,osq⟩,hw''⟩:=hw'
          subst hw''
          have H6:=Hush.mk (H5.out.step ((Grown.refl w5).grow nq osq).below)
          clear y0 y1 y2 y3 y4 z0 z1 z2 z3 z4
          go_wp2
          go_ret
          exact ⟨congrArg (fun b=>Ending.returned (Value.bool b)) (by rw [HN.out,HSV.out];simp),HB1.out.trans (H6.out.below.mono HB1.out.size)⟩
         ·go_wp2_with fail
          refine wp_region_quiet_grown mixed (by kernel_rfl) ?_
          repeat (go_big_quiet_step (first | (go_at_call 98;exact Calls.grown_of (HCA.out _))))
          refine wpQuiet_nil ?_
          intro _ hw'
          obtain ⟨⟨nq,osq⟩,hw''⟩:=hw'
          subst hw''
          have H6:=Hush.mk (H5.out.step ((Grown.refl w5).grow nq osq).below)
          have HP6:=Hush.mk (HP5.out.below ((Grown.refl w5).grow nq osq).below)
          have HF6:=Hush.mk (HF5.out.below ((Grown.refl w5).grow nq osq).below)
          clear y0 y1 y2 y3 y4 z0 z1 z2 z3 z4
          generalize Go.Sort.grow (w5.drewN (GrownBy.mk nq osq).n) (GrownBy.mk nq osq).os = w6 at H6 HP6 HF6 ⊢
          have y4:=grown_cell HP6.out.2.2.2.2
          have z3:=grown_cell HF6.out.2.2.2.1
          simp only at y4 z3
          by_cases hj0:j = 0
          ·have hjz:¬ (0:Int) < (j:Int):=by omega
           have hjn:¬ 0 < j:=by omega
           have hjd:decide (0 < j) = false:=decide_eq_false hjn
           have HJ0:=Hush.mk hj0
           clear hj0
           go_wp2_with fail
           refine wp_region_quiet_grown mixed (by kernel_rfl) ?_
           repeat (go_big_quiet_step (fail))
           refine wpQuiet_nil ?_
           intro _ hw'
           obtain ⟨⟨nq2,osq2⟩,hw''⟩:=hw'
           subst hw''
           have H7:=Hush.mk (H6.out.step ((Grown.refl w6).grow nq2 osq2).below)
           clear y4 z3
           generalize Go.Sort.grow (w6.drewN (GrownBy.mk nq2 osq2).n) (GrownBy.mk nq2 osq2).os = w7 at H7 ⊢
           go_wp2
           go_roundw
           case rel=>exact ⟨k + 1,A5,c5,f0 :: S,by go_num,by first | rfl | trivial,by omega,⟨by rw [HN.out,HBF.out,HSV.out,HPV.out,decide_eq_true HJ0.out];simp,H7.out,G3.out⟩⟩
           case measure=>simp [intOf];omega
          ·have hjz:(0:Int) < (j:Int):=by omega
           have hjn:0 < j:=by omega
           have HJ0:=Hush.mk hj0
           clear hj0
           cases m
           ·go_wp2_with fail
            refine wp_region_quiet_grown mixed (by kernel_rfl) ?_
            repeat (go_big_quiet_step (fail))
            refine wpQuiet_nil ?_
            intro _ hw'
            obtain ⟨⟨nq2,osq2⟩,hw''⟩:=hw'
            subst hw''
            have H7:=Hush.mk (H6.out.step ((Grown.refl w6).grow nq2 osq2).below)
            clear y4 z3
            generalize Go.Sort.grow (w6.drewN (GrownBy.mk nq2 osq2).n) (GrownBy.mk nq2 osq2).os = w7 at H7 ⊢
            go_wp2
            go_ret
            exact ⟨congrArg (fun b=>Ending.returned (Value.bool b)) (by rw [HN.out,HSV.out,decide_eq_false HJ0.out];simp),HB1.out.trans (H7.out.below.mono HB1.out.size)⟩
           ·go_wp2_with fail
            refine wp_region_quiet_grown mixed (by kernel_rfl) ?_
            repeat (go_big_quiet_step (fail))
            refine wpQuiet_nil ?_
            intro _ hw'
            obtain ⟨⟨nq2,osq2⟩,hw''⟩:=hw'
            subst hw''
            have H7:=Hush.mk (H6.out.step ((Grown.refl w6).grow nq2 osq2).below)
            clear y4 z3
            generalize Go.Sort.grow (w6.drewN (GrownBy.mk nq2 osq2).n) (GrownBy.mk nq2 osq2).os = w7 at H7 ⊢
            go_wp2
            go_roundw
            case rel=>exact ⟨k + 1,A5,c5,f0 :: S,by go_num,by first | rfl | trivial,by omega,⟨by rw [HN.out,HBF.out,HSV.out,HPV.out];simp,H7.out,G3.out⟩⟩
            case measure=>simp [intOf];omega
     ·have hr1:(r == 0) = false:=by simpa using hr0
      have hr2:(r != 0) = true:=by simpa using hr0
      have HR0:=Hush.mk hr0
      clear hr0
      go_wp2_with (go_at_call 21;refine (refcheck_new _ _ _ _ _ _ _ _ _ _ _ (by simp) _ HR.out).mono ?_;rintro e w3 ⟨rfl,hb3⟩;have HB3:=Hush.mk (after3 (f:=⟨f0,f1,f2,f3,f4⟩) hb3);clear hb3)
      go_ret
      exact ⟨congrArg (fun b=>Ending.returned (Value.bool b)) (by rw [HN.out,decide_eq_false HR0.out];rfl),HB1.out.trans ((G2.out.step HB3.out.1).below.mono HB1.out.size)⟩
    ·obtain rfl:k = L.length:=by omega
     have HJ1:Hush (refJ w1 Ls (j + 1) A c S wr):=⟨by
      obtain ⟨g1,g2,g3⟩:=HK.out
      have hsh:=HIN.out.short
      rw [List.drop_of_length_le (Nat.le_refl _)] at g1
      exact ⟨g1.trans (by rfl),g2,by omega⟩⟩
     clear HK
     go_wp2
     go_roundw
     case rel=>exact ⟨j + 1,A,c,S,by go_num,by first | rfl | trivial,by omega,HJ1⟩
     case measure=>simp [intOf];omega
  ·obtain rfl:j = 4:=by omega
   have HE:Hush (rightB Ls = true ∧ Below w1.heap.size w1 wr):=⟨by
    obtain ⟨g1,g2,g3⟩:=HJ.out
    rw [List.drop_of_length_le (by rw [HL4.out];exact Nat.le_refl _)] at g1
    exact ⟨g1,g2.below⟩⟩
   clear HJ
   go_wp2
   go_ret
   exact ⟨congrArg (fun b=>Ending.returned (Value.bool b)) HE.out.1.symm,HB1.out.trans (HE.out.2.mono HB1.out.size)⟩
end Go.Proofs.YteilnbnnhocciaaDoor.V
