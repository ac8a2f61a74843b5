/- VersionWhole: the card of the statement VersionWhole, with no condition: what a pick has is all that overlaps it, a version made of another one's files is that one, edits change no version. (part 6 of 8; packed by program out of the texts named below) -/
import Derived.Test.YteilnbnnhocciaaDoorXJ5
import Derived.Deep.RegionLaw
import Derived.Deep.AppendLies
set_option linter.unusedVariables false
set_option linter.unusedSimpArgs false

/-! V37 -/
namespace Go.Proofs.YteilnbnnhocciaaDoor.V
open Go.Proofs Go.Sort Go.Lib Go.RowKit Go.BigFrame Go.Proofs.YteilnbnnhocciaaDoorM Go.Proofs.YteilnbnnhocciaaDoorW.PrintWords Go.Proofs.YteilnbnnhocciaaDoorW.PrintLast Go.Proofs.YteilnbnnhocciaaDoorW.PrintMore Go.Proofs.YteilnbnnhocciaaDoor.KV
def GoneAt (w:World) (p:Addr) (g:S111):Prop:=w.cell? p = some (.int .i64 g.f0) ∧ w.cell? ⟨p.block,p.off + 1,none⟩ = some (.int .u64 g.f1)
def ComeAt (w:World) (p:Addr) (a:S107):Prop:=w.cell? p = some (.int .i64 a.f0) ∧ w.cell? ⟨p.block,p.off + 1,none⟩ = some (.int .u64 a.f1.f0) ∧ w.cell? ⟨p.block,p.off + 2,none⟩ = some (.int .u64 a.f1.f1) ∧ w.cell? ⟨p.block,p.off + 3,none⟩ = some (.int .u64 a.f1.f2) ∧ w.cell? ⟨p.block,p.off + 4,none⟩ = some (.string a.f1.f3) ∧ w.cell? ⟨p.block,p.off + 5,none⟩ = some (.string a.f1.f4)
theorem GoneAt.below {w w':World} {p:Addr} {g:S111} (h:GoneAt w p g) (b:RowKit.Below w.heap.size w w'):GoneAt w' p g:=by
 have up:∀ p v,w.cell? p = some v → w'.cell? p = some v:=fun p v e=>(b.cell (World.block_lt_of_cell? w p e)).trans e
 exact ⟨up _ _ h.1,up _ _ h.2⟩
theorem ComeAt.below {w w':World} {p:Addr} {a:S107} (h:ComeAt w p a) (b:RowKit.Below w.heap.size w w'):ComeAt w' p a:=by
 have up:∀ p v,w.cell? p = some v → w'.cell? p = some v:=fun p v e=>(b.cell (World.block_lt_of_cell? w p e)).trans e
 exact ⟨up _ _ h.1,up _ _ h.2.1,up _ _ h.2.2.1,up _ _ h.2.2.2.1,up _ _ h.2.2.2.2.1,up _ _ h.2.2.2.2.2⟩
theorem gone_of111 {w:World} {A:Option Addr} {G:List S111} (h:Kd.C k111 w A G.length G) (h0:0 < G.length):∃ ad,A = some ad ∧ ∀ i x,G[i]? = some x → GoneAt w (ad.add (i * 2)) x:=by
 obtain ⟨ad,e,hc⟩:=h.2.2 h0
 refine ⟨ad,e,fun i x hx=>?_⟩
 obtain ⟨c,hs,hK,hcell⟩:=hc i x hx
 obtain rfl:=k111_open hK
 exact ⟨hcell 0 _ rfl,by rw [← add_field _ _ 1 (by omega)];exact hcell 1 _ rfl⟩
theorem come_of107 {w:World} {A:Option Addr} {C:List S107} (h:Kd.C k107 w A C.length C) (h0:0 < C.length):∃ ad,A = some ad ∧ ∀ i x,C[i]? = some x → ComeAt w (ad.add (i * 6)) x:=by
 obtain ⟨ad,e,hc⟩:=h.2.2 h0
 refine ⟨ad,e,fun i x hx=>?_⟩
 obtain ⟨c,hs,hK,hcell⟩:=hc i x hx
 obtain rfl:=k107_open hK
 exact ⟨hcell 0 _ rfl,by rw [← add_field _ _ 1 (by omega)];exact hcell 1 _ rfl,by rw [← add_field _ _ 2 (by omega)];exact hcell 2 _ rfl,by rw [← add_field _ _ 3 (by omega)];exact hcell 3 _ rfl,by rw [← add_field _ _ 4 (by omega)];exact hcell 4 _ rfl,by rw [← add_field _ _ 5 (by omega)];exact hcell 5 _ rfl⟩
structure ApSt (w:World) (cv gv:Value) (F:Nat → List FileV) (v:Nat → Value) (W:World):Prop where
 four:Four W w.heap.size v
 lv:Lv (w.heap.size + 3) F v W
 r:Four W (w.heap.size + 1 + 1) (fun _=>nilS)
 come:W.cell? ⟨w.heap.size + 1,3,none⟩ = some cv
 gone:W.cell? ⟨w.heap.size + 1,4,none⟩ = some gv
 below:RowKit.Below w.heap.size w W
 size:w.heap.size + 3 ≤ W.heap.size
theorem ApSt.step {w:World} {cv gv:Value} {F:Nat → List FileV} {v:Nat → Value} {W W':World} (h:ApSt w cv gv F v W) (hb:RowKit.Below W.heap.size W W'):ApSt w cv gv F v W':=
 have up:∀ p v,W.cell? p = some v → W'.cell? p = some v:=fun p v e=>(hb.cell (World.block_lt_of_cell? W p e)).trans e
 ⟨h.four.below hb,h.lv.below hb,h.r.below hb,up _ _ h.come,up _ _ h.gone,h.below.trans (hb.mono h.below.size),Nat.le_trans h.size hb.size⟩
theorem ApSt.keep {w:World} {cv gv:Value} {F F':Nat → List FileV} {v v':Nat → Value} {W W':World} (h:ApSt w cv gv F v W) (hf:Four W' w.heap.size v') (hl:Lv (w.heap.size + 3) F' v' W') (hk:Keeps (w.heap.size + 3) w.heap.size W W'):ApSt w cv gv F' v' W':=
 ⟨hf,hl,h.r.keep (hk.block _ (by omega) (by omega)),(hk.cell (p:=⟨w.heap.size + 1,3,none⟩) (by show w.heap.size + 1 < _;omega) (by show w.heap.size + 1 ≠ _;omega)).trans h.come,(hk.cell (p:=⟨w.heap.size + 1,4,none⟩) (by show w.heap.size + 1 < _;omega) (by show w.heap.size + 1 ≠ _;omega)).trans h.gone,
  ⟨hk.os.trans h.below.os,hk.tape.trans h.below.tape,hk.output.trans h.below.output,Nat.le_trans h.below.size hk.size,fun k hlt=>(hk.block k (by omega) (by omega)).trans (h.below.block k hlt)⟩,Nat.le_trans h.size hk.size⟩
theorem ApSt.add {w:World} {cv gv:Value} {F:Nat → List FileV} {v:Nat → Value} {W Wm W9:World} {lv g cap:Nat} {f:FileV} (h:ApSt w cv gv F v W) (hlv:lv < 4) (hb:RowKit.Below W.heap.size W Wm) (hg:Wm.grownBy W9 (v lv).ownBlock)
  (hown:W9.ownsRow (w.heap.size + 3) 97 5 (.slice (some ⟨g,0,none⟩) ((F lv).length + 1) cap) ((F lv).length + 1) (cellsF (F lv) ++ encF f)) (hat:(v lv).ownBlock = some g ∨ g = Wm.heap.size) :
  ApSt w cv gv (upd F lv (F lv ++ [f])) (fun x=>if x = lv then .slice (some ⟨g,0,none⟩) ((F lv).length + 1) cap else v x) (W9.setCell ⟨w.heap.size,lv,none⟩ (.slice (some ⟨g,0,none⟩) ((F lv).length + 1) cap)):=by
 have hm:=h.step hb
 have ob:∀ k,(v lv).ownBlock = some k → w.heap.size + 3 ≤ k:=fun k hk=>(own_lt (hm.lv.own lv hlv) hk).1
 have hs:=hm.size
 have f9:Four W9 w.heap.size v:=hm.four.keep (hg.block _ (by omega) (fun e=>by have:=ob _ e.symm;omega))
 have hown':W9.ownsRow (w.heap.size + 3) 97 5 (.slice (some ⟨g,0,none⟩) ((F lv).length + 1) cap) (F lv ++ [f]).length (cellsF (F lv ++ [f])):=by
  rw [cellsF_append,cellsF_one,List.length_append,List.length_singleton];exact hown
 have l9:=hm.lv.turn hlv hg hown' (fun k hk=>by
  obtain rfl:g = k:=Option.some.inj hk
  exact hat.imp id (fun e=>by omega))
 refine hm.keep (f9.set lv hlv _) (l9.setCell (a:=⟨w.heap.size,lv,none⟩) (by show w.heap.size < _;omega) _) ((Keeps.grown hg (by omega) ob).trans (Keeps.setCell _ _ _ _ _))
def WfF (F:Nat → List FileV):Prop:=∀ i,i < 4 → ∀ f ∈ F i,(Lit.int .u64 f.num).wf = true
theorem LAt.level {w:World} {A:Option Addr} {L:List FileV} (h:LAt w A L) (hl:L.length ≤ 1000000) (hw:∀ f ∈ L,(Lit.int .u64 f.num).wf = true):LevelIn w A L:=⟨h.files,hl,hw⟩
theorem level_of_check {c:List S107} {g:List S111} (h:edit_Edit_Check.val c g = 0):(∀ x ∈ g,∃ lv:Nat,lv < 4 ∧ x.f0 = (lv:Int)) ∧ (∀ x ∈ c,∃ lv:Nat,lv < 4 ∧ x.f0 = (lv:Int)) ∧ c.length ≤ 200 ∧ g.length ≤ 200:=by
 unfold edit_Edit_Check.val at h
 by_cases h1:200 < c.length ∨ 200 < g.length
 ·rw [if_pos h1] at h;cases h
 rw [if_neg h1] at h
 by_cases h2:edit_firstWrong c ≠ 0
 ·rw [if_pos h2] at h;exact absurd h h2
 rw [if_neg h2] at h
 have h2':edit_firstWrong c = 0:=by simpa using h2
 by_cases h3:g.any edit_goneB = true
 ·rw [if_pos h3] at h;cases h
 refine ⟨fun x hx=>?_,fun x hx=>?_,by omega,by omega⟩
 ·have h4:edit_goneB x = false:=by
   rw [List.any_eq_true] at h3
   by_cases c:edit_goneB x = true
   ·exact absurd ⟨x,hx,c⟩ h3
   ·simpa using c
  rw [goneB_eq] at h4
  simp only [Bool.or_eq_false_iff,decide_eq_false_iff_not] at h4
  exact ⟨x.f0.toNat,by omega,by omega⟩
 ·have key:∀ l:List S107,edit_firstWrong l = 0 → ∀ y ∈ l,edit_wrong.val y.f0 y.f1.f0 y.f1.f3 y.f1.f4 = 0:=by
   intro l
   induction l with
   | nil=>intro _ y hy;cases hy
   | cons z r ih=>
    intro hz y hy
    unfold edit_firstWrong at hz
    by_cases e:edit_wrong.val z.f0 z.f1.f0 z.f1.f3 z.f1.f4 = 0
    ·rcases List.mem_cons.1 hy with rfl | hy
     ·exact e
     ·exact ih (by simpa [e] using hz) y hy
    ·simp [e] at hz
  have h5:=key c h2' x hx
  rw [wrong_val_eq] at h5
  by_cases e1:x.f0 < 0
  ·rw [if_pos e1] at h5;cases h5
  rw [if_neg e1] at h5
  by_cases e2:x.f0 > 3
  ·rw [if_pos e2] at h5;cases h5
  exact ⟨x.f0.toNat,by omega,by omega⟩
theorem goAll_sub:∀ (g:List S111) (F F1:Nat → List FileV),goAll g F = some F1 → ∀ i,(F1 i).Sublist (F i)
 | [],F,F1,h,i=>by obtain rfl:=Option.some.inj h;exact List.Sublist.refl _
 | g :: r,F,F1,h,i=>by
  unfold goAll at h
  match h':takeOut g.f1 (F g.f0.toNat) with
  | none=>rw [h'] at h;cases h
  | some l=>
   rw [h'] at h
   have:=goAll_sub r _ F1 h i
   unfold upd at this
   by_cases e:i = g.f0.toNat
   ·rw [if_pos e] at this
    subst e
    exact this.trans (takeOut_sub _ _ _ h')
   ·rw [if_neg e] at this;exact this
theorem comeApp_len:∀ (c:List S107) (F:Nat → List FileV) (i:Nat),(comeApp c F i).length ≤ (F i).length + c.length
 | [],F,i=>by simp [comeApp]
 | a :: r,F,i=>by
  have:=comeApp_len r (upd F a.f0.toNat (F a.f0.toNat ++ [of97 a.f1])) i
  unfold comeApp
  refine Nat.le_trans this ?_
  unfold upd
  by_cases e:i = a.f0.toNat
  ·rw [if_pos e,List.length_append,List.length_singleton,List.length_cons,e];omega
  ·rw [if_neg e,List.length_cons];omega
theorem comeApp_mem:∀ (c:List S107) (F:Nat → List FileV) (i:Nat) (f:FileV),f ∈ comeApp c F i → f ∈ F i ∨ ∃ a ∈ c,f = of97 a.f1
 | [],F,i,f,h=>.inl h
 | a :: r,F,i,f,h=>by
  rcases comeApp_mem r _ i f h with h | ⟨b,hb,e⟩
  ·unfold upd at h
   by_cases e:i = a.f0.toNat
   ·rw [if_pos e] at h
    rcases List.mem_append.1 h with h | h
    ·rw [e];exact .inl h
    ·exact .inr ⟨a,List.mem_cons_self,List.mem_singleton.1 h⟩
   ·rw [if_neg e] at h;exact .inl h
  ·exact .inr ⟨b,List.mem_cons_of_mem _ hb,e⟩
theorem comeApp_wf {c:List S107} {F:Nat → List FileV} (hF:WfF F) (hc:∀ a ∈ c,(Lit.int .u64 a.f1.f0).wf = true):WfF (comeApp c F):=fun i hi f hf=>by
 rcases comeApp_mem c F i f hf with h | ⟨a,ha,rfl⟩
 ·exact hF i hi f h
 ·exact hc a ha
end Go.Proofs.YteilnbnnhocciaaDoor.V

/-! V38 -/
namespace Go.Proofs.YteilnbnnhocciaaDoor.V
open Go.Proofs Go.Sort Go.Lib Go.RowKit Go.BigFrame Go.Proofs.YteilnbnnhocciaaDoorM Go.Proofs.YteilnbnnhocciaaDoorW.PrintWords Go.Proofs.YteilnbnnhocciaaDoorW.PrintLast Go.Proofs.YteilnbnnhocciaaDoorW.PrintMore Go.Proofs.YteilnbnnhocciaaDoor.KV
def ApPost (w:World) (R:(Nat → List FileV) × Int) (e:Ending) (w':World):Prop:=
 ∃ (A:Nat → Option Addr) (c:Nat → Nat),e = .returned (.tuple #[.agg #[.slice (A 0) (R.1 0).length (c 0),.slice (A 1) (R.1 1).length (c 1),.slice (A 2) (R.1 2).length (c 2),.slice (A 3) (R.1 3).length (c 3)],.int .i64 R.2]) ∧ (∀ i,i < 4 → LAt w' (A i) (R.1 i) ∧ (R.1 i).length ≤ c i) ∧ RowKit.Below w.heap.size w w'
theorem ApPost.nothing {w w':World} {er:Int} (hb:RowKit.Below w.heap.size w w'):ApPost w (noneF,er) (.returned (.tuple #[.agg #[.slice none 0 0,.slice none 0 0,.slice none 0 0,.slice none 0 0],.int .i64 er])) w':=
 ⟨fun _=>none,fun _=>0,rfl,fun i _=>⟨.inl ⟨rfl,rfl⟩,Nat.le_refl _⟩,hb⟩
theorem apply_start (w:World) (s:Nat → Value) (ev:Array Value) (h5:ev.size = 5) (cv gv:Value) (h3:ev[3]? = some cv) (h4:ev[4]? = some gv):∀ w1,w1 = ((w.alloc (.cells #[s 0,s 1,s 2,s 3] 79)).alloc (.cells ev 26)).alloc (.cells #[.slice none 0 0,.slice none 0 0,.slice none 0 0,.slice none 0 0] 79) →
  Four w1 w.heap.size s ∧ Four w1 (w.heap.size + 1 + 1) (fun _=>nilS) ∧ (∀ i u,ev[i]? = some u → w1.cell? ⟨w.heap.size + 1,i,none⟩ = some u) ∧ RowKit.Below w.heap.size w w1 ∧ w1.heap.size = w.heap.size + 3:=by
 intro w1 hw1
 have z1:=size_alloc w (.cells #[s 0,s 1,s 2,s 3] 79)
 have z2:=size_alloc (w.alloc (.cells #[s 0,s 1,s 2,s 3] 79)) (.cells ev 26)
 have z3:=size_alloc ((w.alloc (.cells #[s 0,s 1,s 2,s 3] 79)).alloc (.cells ev 26)) (.cells #[.slice none 0 0,.slice none 0 0,.slice none 0 0,.slice none 0 0] 79)
 have e1:=World.alloc_heap_new w (.cells #[s 0,s 1,s 2,s 3] 79)
 have e2:=World.alloc_heap_new (w.alloc (.cells #[s 0,s 1,s 2,s 3] 79)) (.cells ev 26)
 have e3:=World.alloc_heap_new ((w.alloc (.cells #[s 0,s 1,s 2,s 3] 79)).alloc (.cells ev 26)) (.cells #[.slice none 0 0,.slice none 0 0,.slice none 0 0,.slice none 0 0] 79)
 rw [z1] at e2
 rw [z2,z1] at e3
 have f1:Four (w.alloc (.cells #[s 0,s 1,s 2,s 3] 79)) w.heap.size s:=⟨79,e1⟩
 have b2:=(RowKit.Below.refl (w.alloc (.cells #[s 0,s 1,s 2,s 3] 79)).heap.size (w.alloc (.cells #[s 0,s 1,s 2,s 3] 79))).alloc (Nat.le_refl _) (.cells ev 26)
 have b3:=(RowKit.Below.refl ((w.alloc (.cells #[s 0,s 1,s 2,s 3] 79)).alloc (.cells ev 26)).heap.size _).alloc (Nat.le_refl _) (.cells #[.slice none 0 0,.slice none 0 0,.slice none 0 0,.slice none 0 0] 79)
 refine ⟨by rw [hw1];exact (f1.below b2).below b3,by rw [hw1];exact ⟨79,e3⟩,fun i u h=>?_,by rw [hw1];exact (((RowKit.Below.refl _ _).alloc (Nat.le_refl _) _).alloc (by omega) _).alloc (by omega) _,by rw [hw1];omega⟩
 have e:((w.alloc (.cells #[s 0,s 1,s 2,s 3] 79)).alloc (.cells ev 26)).cell? ⟨w.heap.size + 1,i,none⟩ = some u:=by
  simp only [World.cell?,e2]
  exact h
 rw [hw1]
 exact (b3.cell (World.block_lt_of_cell? _ _ e)).trans e
set_option maxHeartbeats 8000000 in
set_option maxRecDepth 100000 in
theorem apply_bad (F:Nat → List FileV) (A:Nat → Option Addr) (c:Nat → Nat) (a b d:Int) (CA GA:Option Addr) (cc gc:Nat) (C:List S107) (G:List S111) (w:World)
  (hC:Kd.C k107 w CA C.length C) (hcc:C.length ≤ cc) (hG:Kd.C k111 w GA G.length G) (hgc:G.length ≤ gc) (hbad:¬ edit_Edit_Check.val C G = 0) :
  Calls Tryd.prog 47 #[.agg #[.slice (A 0) (F 0).length (c 0),.slice (A 1) (F 1).length (c 1),.slice (A 2) (F 2).length (c 2),.slice (A 3) (F 3).length (c 3)],.agg #[.int .u64 a,.int .u64 b,.int .u64 d,.slice CA C.length cc,.slice GA G.length gc]] w (ApPost w (applyR C G F)):=by
 obtain ⟨S,hS⟩:∃ S:Nat → Value,S = fun i=>.slice (A i) (F i).length (c i):=⟨_,rfl⟩
 have hR:applyR C G F = (noneF,edit_Edit_Check.val C G):=by unfold applyR;rw [if_neg hbad]
 rw [hR]
 obtain ⟨w1,hw1⟩:∃ w1,w1 = ((w.alloc (.cells #[.slice (A 0) (F 0).length (c 0),.slice (A 1) (F 1).length (c 1),.slice (A 2) (F 2).length (c 2),.slice (A 3) (F 3).length (c 3)] 79)).alloc (.cells #[.int .u64 a,.int .u64 b,.int .u64 d,.slice CA C.length cc,.slice GA G.length gc] 26)).alloc (.cells #[.slice none 0 0,.slice none 0 0,.slice none 0 0,.slice none 0 0] 79):=⟨_,rfl⟩
 have hst:=apply_start w S #[.int .u64 a,.int .u64 b,.int .u64 d,.slice CA C.length cc,.slice GA G.length gc] rfl _ _ rfl rfl w1 (by rw [hw1,hS])
 have HST:=Hush.mk hst
 have HC:Hush (Calls Tryd.prog 20 #[.agg #[.int .u64 a,.int .u64 b,.int .u64 d,.slice CA C.length cc,.slice GA G.length gc]] w1 fun e w'=>e = .returned (.int .i64 (edit_Edit_Check.val C G)) ∧ RowKit.Below w1.heap.size w1 w'):=
  ⟨edit_Edit_Check.calls a b d CA cc C GA gc G _ w1 (Kd.C_below hC hst.2.2.2.1) hcc (Kd.C_below hG hst.2.2.2.1) hgc rfl⟩
 have HW1:=Hush.mk hw1
 obtain ⟨er,her⟩:∃ er,er = edit_Edit_Check.val C G:=⟨_,rfl⟩
 rw [← her] at HC hbad ⊢
 have hb2:(er == 0) = false:=by simpa using hbad
 clear hst hS hR hC hG hcc hgc her hw1
 go_enter Tryd.func47,Tryd.ntmps47
 go_wp2_with (go_at_call 20;rw [← HW1.out];refine HC.out.mono ?_;rintro e w2 ⟨rfl,hb2⟩;have HB2:=Hush.mk hb2;have r4:=HST.out.2.1.below hb2;have r0:=r4.cell 0 (by omega);have r1:=r4.cell 1 (by omega);have r2:=r4.cell 2 (by omega);have r3:=r4.cell 3 (by omega);have f0:=r4.frozen 0;have f1:=r4.frozen 1;have f2:=r4.frozen 2;have f3:=r4.frozen 3;unfold nilS at r0 r1 r2 r3;clear hb2 r4)
 have HFF:Hush (∀ wF,wF = ((((w2.setCell ⟨w.heap.size + 1 + 1,0,none⟩ nilS).setCell ⟨w.heap.size + 1 + 1,1,none⟩ nilS).setCell ⟨w.heap.size + 1 + 1,2,none⟩ nilS).setCell ⟨w.heap.size + 1 + 1,3,none⟩ nilS) → Four wF (w.heap.size + 1 + 1) (fun _=>nilS) ∧ RowKit.Below w.heap.size w wF):=⟨fun wF hF=>by
  have e:(fun i:Nat=>if i = 0 then nilS else if i = 1 then nilS else if i = 2 then nilS else nilS) = fun _=>nilS:=by funext x;simp
  have h1:=four_sets (HST.out.2.1.below HB2.out) nilS nilS nilS nilS
  rw [e] at h1
  rw [hF]
  exact ⟨h1,below_sets (HST.out.2.2.2.1.trans (HB2.out.mono HST.out.2.2.2.1.size)) (by omega) _ _ _ _⟩⟩
 unfold nilS at HFF
 obtain ⟨wF,hwF⟩:∃ wF,wF = ((((w2.setCell ⟨w.heap.size + 1 + 1,0,none⟩ (.slice none 0 0)).setCell ⟨w.heap.size + 1 + 1,1,none⟩ (.slice none 0 0)).setCell ⟨w.heap.size + 1 + 1,2,none⟩ (.slice none 0 0)).setCell ⟨w.heap.size + 1 + 1,3,none⟩ (.slice none 0 0)):=⟨_,rfl⟩
 obtain ⟨h4,hbf⟩:=HFF.out wF hwF
 have k0:=h4.cell 0 (by omega)
 have k1:=h4.cell 1 (by omega)
 have k2:=h4.cell 2 (by omega)
 have k3:=h4.cell 3 (by omega)
 rw [← hwF]
 exact bodyPost_ret (v:=.tuple #[.agg #[.slice none 0 0,.slice none 0 0,.slice none 0 0,.slice none 0 0],.int .i64 er]) (by simp [results,Tryd.results47,go_sem,k0,k1,k2,k3]) rfl (ApPost.nothing hbf)
end Go.Proofs.YteilnbnnhocciaaDoor.V

/-! V39 -/
namespace Go.Proofs.YteilnbnnhocciaaDoor.V
open Go.Proofs Go.Sort Go.Lib Go.RowKit Go.BigFrame Go.Proofs.YteilnbnnhocciaaDoorM Go.Proofs.YteilnbnnhocciaaDoorW.PrintWords Go.Proofs.YteilnbnnhocciaaDoorW.PrintLast Go.Proofs.YteilnbnnhocciaaDoorW.PrintMore Go.Proofs.YteilnbnnhocciaaDoor.KV
theorem goAll_cons (g:S111) (r:List S111) (F:Nat → List FileV):goAll (g :: r) F = match takeOut g.f1 (F g.f0.toNat) with | none=>none | some l=>goAll r (upd F g.f0.toNat l):=rfl
theorem comeApp_cons (x:S107) (r:List S107) (F:Nat → List FileV):comeApp (x :: r) F = comeApp r (upd F x.f0.toNat (F x.f0.toNat ++ [of97 x.f1])):=rfl
def GoJ (w:World) (cv gv:Value) (G:List S111) (F:Nat → List FileV) (j:Nat) (wr:World):Prop:=
 ∃ F' v,ApSt w cv gv F' v wr ∧ goAll G F = goAll (G.drop j) F' ∧ ∀ i,(F' i).Sublist (F i)
theorem GoJ.gone {w wr:World} {cv gv:Value} {G:List S111} {F:Nat → List FileV} {j:Nat} {lv:Nat} {num:Int} (h:GoJ w cv gv G F j wr) (hx:G[j]? = some ⟨(lv:Int),num⟩) :
  ∃ F' v,ApSt w cv gv F' v wr ∧ (∀ i,(F' i).Sublist (F i)) ∧ ((takeOut num (F' lv) = none ∧ goAll G F = none) ∨ ∃ l,takeOut num (F' lv) = some l ∧ goAll G F = goAll (G.drop (j + 1)) (upd F' lv l)):=by
 obtain ⟨F',v,h1,h2,h3⟩:=h
 refine ⟨F',v,h1,h3,?_⟩
 obtain ⟨q1,q2⟩:=List.getElem?_eq_some_iff.1 hx
 rw [List.drop_eq_getElem_cons q1,q2,goAll_cons] at h2
 simp only [Int.toNat_natCast] at h2
 match ht:takeOut num (F' lv) with
 | none=>rw [ht] at h2;exact .inl ⟨rfl,h2⟩
 | some l=>rw [ht] at h2;exact .inr ⟨l,rfl,h2⟩
def CoJ (w:World) (cv gv:Value) (C:List S107) (F1:Nat → List FileV) (k:Nat) (wr:World):Prop:=
 ∃ F' v,ApSt w cv gv F' v wr ∧ comeApp C F1 = comeApp (C.drop k) F' ∧ ∀ i,(F' i).length ≤ (F1 i).length + k
theorem CoJ.come {w wr:World} {cv gv:Value} {C:List S107} {F1:Nat → List FileV} {k lv:Nat} {x:S97} (h:CoJ w cv gv C F1 k wr) (hx:C[k]? = some ⟨(lv:Int),x⟩) :
  ∃ F' v,ApSt w cv gv F' v wr ∧ comeApp C F1 = comeApp (C.drop (k + 1)) (upd F' lv (F' lv ++ [of97 x])) ∧ ∀ i,(F' i).length ≤ (F1 i).length + k:=by
 obtain ⟨F',v,h1,h2,h3⟩:=h
 refine ⟨F',v,h1,?_,h3⟩
 obtain ⟨q1,q2⟩:=List.getElem?_eq_some_iff.1 hx
 rw [List.drop_eq_getElem_cons q1,q2,comeApp_cons] at h2
 simpa only [Int.toNat_natCast] using h2
theorem upd_len {F' F1:Nat → List FileV} {k lv:Nat} {f:FileV} (h:∀ i,(F' i).length ≤ (F1 i).length + k):∀ i,(upd F' lv (F' lv ++ [f]) i).length ≤ (F1 i).length + (k + 1):=fun i=>by
 have:=h i
 unfold upd
 by_cases e:i = lv
 ·subst e;rw [if_pos rfl,List.length_append,List.length_singleton];omega
 ·rw [if_neg e];omega
def SoJ (w:World) (cv gv:Value) (F2:Nat → List FileV) (j:Nat) (wr:World):Prop:=
 ∃ F' v,ApSt w cv gv F' v wr ∧ (∀ i,(F' i).Perm (F2 i)) ∧ ∀ i,i < j → (F' i).Pairwise fun a b=>ltOf (ordL i) b a = false
set_option maxHeartbeats 16000000 in
set_option maxRecDepth 100000 in
theorem apply_good (F:Nat → List FileV) (A:Nat → Option Addr) (c:Nat → Nat) (a b d:Int) (CA GA:Option Addr) (cc gc:Nat) (C:List S107) (G:List S111) (w:World)
  (hin:∀ i,i < 4 → LAt w (A i) (F i) ∧ (F i).length ≤ 100000) (hF:∀ i,i < 4 → Strict i (F i)) (hwf:WfF F) (hCw:∀ x ∈ C,(Lit.int .u64 x.f1.f0).wf = true)
  (hC:Kd.C k107 w CA C.length C) (hcc:C.length ≤ cc) (hG:Kd.C k111 w GA G.length G) (hgc:G.length ≤ gc) (hgood:edit_Edit_Check.val C G = 0) :
  Calls Tryd.prog 47 #[.agg #[.slice (A 0) (F 0).length (c 0),.slice (A 1) (F 1).length (c 1),.slice (A 2) (F 2).length (c 2),.slice (A 3) (F 3).length (c 3)],.agg #[.int .u64 a,.int .u64 b,.int .u64 d,.slice CA C.length cc,.slice GA G.length gc]] w (ApPost w (applyR C G F)):=by
 obtain ⟨i0,hi,hz0,hz1,hz2⟩:=info_parts info97'
 have mixed:Tryd.prog.follows .mixedOrders = true:=by kernel_rfl
 obtain ⟨hlG,hlC,hC2,hG2⟩:=level_of_check hgood
 obtain ⟨S,hS⟩:∃ S:Nat → Value,S = fun i=>.slice (A i) (F i).length (c i):=⟨_,rfl⟩
 obtain ⟨R,hR⟩:∃ R,R = applyR C G F:=⟨_,rfl⟩
 rw [← hR]
 have HR:Hush (R = match goAll G F with | none=>(noneF,16) | some F1=>if rightF (comeWith C F1) then (comeWith C F1,0) else (noneF,20)):=⟨by rw [hR];unfold applyR;rw [if_pos hgood];rfl⟩
 clear hR
 obtain ⟨w1,hw1⟩:∃ w1,w1 = ((w.alloc (.cells #[.slice (A 0) (F 0).length (c 0),.slice (A 1) (F 1).length (c 1),.slice (A 2) (F 2).length (c 2),.slice (A 3) (F 3).length (c 3)] 79)).alloc (.cells #[.int .u64 a,.int .u64 b,.int .u64 d,.slice CA C.length cc,.slice GA G.length gc] 26)).alloc (.cells #[.slice none 0 0,.slice none 0 0,.slice none 0 0,.slice none 0 0] 79):=⟨_,rfl⟩
 have hst:=apply_start w S #[.int .u64 a,.int .u64 b,.int .u64 d,.slice CA C.length cc,.slice GA G.length gc] rfl _ _ rfl rfl w1 (by rw [hw1,hS])
 have HST:=Hush.mk hst
 have HW1:=Hush.mk hw1
 have HC:Hush (Calls Tryd.prog 20 #[.agg #[.int .u64 a,.int .u64 b,.int .u64 d,.slice CA C.length cc,.slice GA G.length gc]] w1 fun e w'=>e = .returned (.int .i64 0) ∧ RowKit.Below w1.heap.size w1 w'):=⟨by
  have:=edit_Edit_Check.calls a b d CA cc C GA gc G _ w1 (Kd.C_below hC hst.2.2.2.1) hcc (Kd.C_below hG hst.2.2.2.1) hgc rfl
  rwa [hgood] at this⟩
 have HTW:Hush (∀ w2,RowKit.Below w1.heap.size w1 w2 → Calls Tryd.prog 99 #[.agg #[.slice (A 0) (F 0).length (c 0),.slice (A 1) (F 1).length (c 1),.slice (A 2) (F 2).length (c 2),.slice (A 3) (F 3).length (c 3)]] w2 fun e w'=>
   ∃ (A':Nat → Option Addr) (c':Nat → Nat),e = .returned (.agg #[.slice (A' 0) (F 0).length (c' 0),.slice (A' 1) (F 1).length (c' 1),.slice (A' 2) (F 2).length (c' 2),.slice (A' 3) (F 3).length (c' 3)]) ∧ Lv (w.heap.size + 3) F (fun i=>.slice (A' i) (F i).length (c' i)) w' ∧ RowKit.Below w2.heap.size w2 w'):=⟨fun w2 h2=>by
  have hb:=hst.2.2.2.1.trans (h2.mono hst.2.2.2.1.size)
  refine (twin_on F A c w2 (fun i hi=>⟨(hin i hi).1.below hb,by have:=(hin i hi).2;omega⟩)).mono fun e w' ⟨A',c',h3,h4,h5⟩=>⟨A',c',h3,⟨fun i hi=>own_weaken (h4.own i hi) (by have:=h2.size;have:=hst.2.2.2.2;omega),h4.apart⟩,h5⟩⟩
 have HLG:=Hush.mk hlG
 have HLC:=Hush.mk hlC
 have HGR:Hush (∀ W,RowKit.Below w.heap.size w W → 0 < G.length → ∃ ad,GA = some ad ∧ ∀ i x,G[i]? = some x → GoneAt W (ad.add (i * 2)) x):=⟨fun W hW h0=>by
  obtain ⟨ad,h1,h2⟩:=gone_of111 hG h0
  exact ⟨ad,h1,fun i x hx=>(h2 i x hx).below hW⟩⟩
 have HCR:Hush (∀ W,RowKit.Below w.heap.size w W → 0 < C.length → ∃ ad,CA = some ad ∧ ∀ i x,C[i]? = some x → ComeAt W (ad.add (i * 6)) x):=⟨fun W hW h0=>by
  obtain ⟨ad,h1,h2⟩:=come_of107 hC h0
  exact ⟨ad,h1,fun i x hx=>(h2 i x hx).below hW⟩⟩
 have HF:=Hush.mk hF
 have HWF:=Hush.mk hwf
 have HCW:=Hush.mk hCw
 have HLEN:Hush (∀ i,i < 4 → (F i).length ≤ 100000):=⟨fun i hi=>(hin i hi).2⟩
 obtain ⟨ca0,cv0⟩:∃ x,x = C.length:=⟨_,rfl⟩
 have p3:=fun W (hW:RowKit.Below w1.heap.size w1 W)=>(hW.cell (World.block_lt_of_cell? w1 _ (hst.2.2.1 3 _ rfl))).trans (hst.2.2.1 3 _ rfl)
 have p4:=fun W (hW:RowKit.Below w1.heap.size w1 W)=>(hW.cell (World.block_lt_of_cell? w1 _ (hst.2.2.1 4 _ rfl))).trans (hst.2.2.1 4 _ rfl)
 have HP:=Hush.mk (And.intro p3 p4)
 have HFS:Hush (∀ W,RowKit.Below w1.heap.size w1 W → Four W w.heap.size (fun i=>.slice (A i) (F i).length (c i))):=⟨fun W hW=>by have:=hst.1.below hW;rwa [hS] at this⟩
 clear cv0 ca0 p3 p4 hst hS hin hF hwf hCw hC hcc hG hgc hgood hlG hlC hw1
 go_enter Tryd.func47,Tryd.ntmps47
 go_wp2_with (first
  | (go_at_call 20;rw [← HW1.out];refine HC.out.mono ?_;rintro e w2 ⟨rfl,hb2⟩;have HB2:=Hush.mk hb2;have f4:=HFS.out w2 hb2;have a0:=f4.cell 0 (by omega);have a1:=f4.cell 1 (by omega);have a2:=f4.cell 2 (by omega);have a3:=f4.cell 3 (by omega);clear hb2 f4)
  | (go_at_call 99;refine (HTW.out w2 HB2.out).mono ?_;rintro e w3 ⟨A',c',rfl,hl3,hb3⟩;have HL3:=Hush.mk hl3;have HB3:=Hush.mk (HB2.out.trans (hb3.mono HB2.out.size));have f4:=HFS.out w3 HB3.out;have a0:=f4.cell 0 (by omega);have a1:=f4.cell 1 (by omega);have a2:=f4.cell 2 (by omega);have a3:=f4.cell 3 (by omega);have b0:=f4.frozen 0;have b1:=f4.frozen 1;have b2:=f4.frozen 2;have b3:=f4.frozen 3;have p4:=HP.out.2 w3 HB3.out;clear hl3 hb3 f4))
 obtain ⟨cv,hcv⟩:∃ cv,cv = Value.slice CA C.length cc:=⟨_,rfl⟩
 obtain ⟨gv,hgv⟩:∃ gv,gv = Value.slice GA G.length gc:=⟨_,rfl⟩
 have H4:Hush (GoJ w cv gv G F 0 ((((w3.setCell ⟨w.heap.size,0,none⟩ (.slice (A' 0) (F 0).length (c' 0))).setCell ⟨w.heap.size,1,none⟩ (.slice (A' 1) (F 1).length (c' 1))).setCell ⟨w.heap.size,2,none⟩ (.slice (A' 2) (F 2).length (c' 2))).setCell ⟨w.heap.size,3,none⟩ (.slice (A' 3) (F 3).length (c' 3)))):=⟨by
  have f4:=four_sets (HFS.out w3 HB3.out) (.slice (A' 0) (F 0).length (c' 0)) (.slice (A' 1) (F 1).length (c' 1)) (.slice (A' 2) (F 2).length (c' 2)) (.slice (A' 3) (F 3).length (c' 3))
  have far:∀ (W:World) (k i j:Nat) (u:Value),k ≠ w.heap.size → (W.setCell ⟨w.heap.size,i,none⟩ u).cell? ⟨k,j,none⟩ = W.cell? ⟨k,j,none⟩:=fun W k i j u hk=>World.cell?_of_block (Below.heap_setCell W ⟨w.heap.size,i,none⟩ u k hk)
  have e3:=HP.out.1 w3 HB3.out
  have e4:=HP.out.2 w3 HB3.out
  refine ⟨F,_,⟨f4,?_,(((((HST.out.2.1.below HB3.out).far (by omega) _).far (by omega) _).far (by omega) _).far (by omega) _),?_,?_,below_sets (HST.out.2.2.2.1.trans (HB3.out.mono HST.out.2.2.2.1.size)) (Nat.le_refl _) _ _ _ _,?_⟩,by rw [List.drop_zero],fun i=>List.Sublist.refl _⟩
  ·refine Lv.sets (HL3.out.congr fun i hi=>?_) (by omega) _ _ _ _
   have:i = 0 ∨ i = 1 ∨ i = 2 ∨ i = 3:=by omega
   rcases this with rfl | rfl | rfl | rfl <;> rfl
  ·rw [far _ _ _ _ _ (by omega),far _ _ _ _ _ (by omega),far _ _ _ _ _ (by omega),far _ _ _ _ _ (by omega),hcv];exact e3
  ·rw [far _ _ _ _ _ (by omega),far _ _ _ _ _ (by omega),far _ _ _ _ _ (by omega),far _ _ _ _ _ (by omega),hgv];exact e4
  ·rw [World.size_setCell,World.size_setCell,World.size_setCell,World.size_setCell]
   have:=HB3.out.size;have:=HST.out.2.2.2.2;omega⟩
 have HCV:=Hush.mk hcv
 have HGV:=Hush.mk hgv
 generalize ((((w3.setCell ⟨w.heap.size,0,none⟩ (.slice (A' 0) (F 0).length (c' 0))).setCell ⟨w.heap.size,1,none⟩ (.slice (A' 1) (F 1).length (c' 1))).setCell ⟨w.heap.size,2,none⟩ (.slice (A' 2) (F 2).length (c' 2))).setCell ⟨w.heap.size,3,none⟩ (.slice (A' 3) (F 3).length (c' 3))) = w4 at H4 ⊢
 clear a0 a1 a2 a3 b0 b1 b2 b3 p4 hcv hgv HL3 HB3 HB2 HFS HP HTW HC HW1 HST
 have HG2:=Hush.mk hG2
 have HC2:=Hush.mk hC2
 clear hG2 hC2
 have HND:Hush (∀ W,RowKit.Below w.heap.size w W → Four W (w.heap.size + 1 + 1) (fun _=>nilS) → ∀ er,R = (noneF,er) → Four ((((W.setCell ⟨w.heap.size + 1 + 1,0,none⟩ nilS).setCell ⟨w.heap.size + 1 + 1,1,none⟩ nilS).setCell ⟨w.heap.size + 1 + 1,2,none⟩ nilS).setCell ⟨w.heap.size + 1 + 1,3,none⟩ nilS) (w.heap.size + 1 + 1) (fun _=>nilS) ∧
   ApPost w R (.returned (.tuple #[.agg #[.slice none 0 0,.slice none 0 0,.slice none 0 0,.slice none 0 0],.int .i64 er])) ((((W.setCell ⟨w.heap.size + 1 + 1,0,none⟩ nilS).setCell ⟨w.heap.size + 1 + 1,1,none⟩ nilS).setCell ⟨w.heap.size + 1 + 1,2,none⟩ nilS).setCell ⟨w.heap.size + 1 + 1,3,none⟩ nilS)):=⟨fun W hW hf er he=>by
  have e:(fun i:Nat=>if i = 0 then nilS else if i = 1 then nilS else if i = 2 then nilS else nilS) = fun _=>nilS:=by funext x;simp
  have h1:=four_sets hf nilS nilS nilS nilS
  rw [e] at h1
  refine ⟨h1,?_⟩
  rw [he]
  exact ApPost.nothing (below_sets hW (by omega) _ _ _ _)⟩
 unfold nilS at HND
 go_loopw [23] (fun iv wr=>∃ j:Nat,iv = .int .i64 j ∧ j ≤ G.length ∧ Hush (GoJ w cv gv G F j wr)) (fun iv _=>G.length - (intOf iv).toNat)
 case atStart=>exact ⟨0,by go_num,by omega,H4⟩
 case round=>
  obtain ⟨j,rfl,hj,HJ⟩:=hrel
  by_cases hlt:j < G.length
  ·have hltz:(j:Int) < (G.length:Int):=by omega
   obtain ⟨kb,hkb⟩:∃ kb:Int,kb = 200:=⟨_,rfl⟩
   have hjb:(j:Int) < kb:=by have:=HG2.out;omega
   have hkb2:kb ≤ 9000000:=by omega
   clear hkb
   obtain ⟨⟨gl,num⟩,hg⟩:∃ x,G[j]? = some x:=⟨_,List.getElem?_eq_getElem hlt⟩
   obtain ⟨lv,hlv,hgl⟩:=HLG.out _ (List.mem_of_getElem? hg)
   simp only at hgl
   subst hgl
   obtain ⟨F',v,hst,hsub,hcase⟩:=HJ.out.gone hg
   obtain ⟨ad,rfl,hrow⟩:=HGR.out wr hst.below (by omega)
   have hx:=hrow j _ hg
   simp only [GoneAt] at hx
   obtain ⟨x0,x1⟩:=hx
   have HS:=Hush.mk hst
   have HSUB:=Hush.mk hsub
   have hlen:(F' lv).length ≤ 1000000:=by have:=(hsub lv).length_le;have:=HLEN.out lv hlv;omega
   have HLE:=Hush.mk hlen
   clear hrow hg hst hsub HJ hlen
   rcases hcase with ⟨ht,hno⟩ | ⟨l,ht,hso⟩
   ·have HNO:=Hush.mk hno
    have HCUT:Hush (∀ W,RowKit.Below wr.heap.size wr W → Calls Tryd.prog 100 #[.pointer (some ⟨w.heap.size,0,none⟩),.agg #[.int .i64 lv,.int .u64 num]] W fun e w'=>e = .returned (.bool false) ∧ RowKit.Below W.heap.size W w'):=⟨fun W hW=>
     cut_none w.heap.size (w.heap.size + 3) lv num F' v W (by omega) hlv (HS.out.four.below hW) (HS.out.lv.below hW) (Nat.le_trans HS.out.size hW.size) HLE.out ht⟩
    clear ht hno
    go_wp2_with (go_at_call 100;refine (HCUT.out _ ((RowKit.Below.refl _ _).alloc (Nat.le_refl _) _)).mono ?_;rintro e w5 ⟨rfl,hb5⟩;have HB5:=Hush.mk (((RowKit.Below.refl wr.heap.size wr).alloc (Nat.le_refl _) _).trans (hb5.mono (by rw [size_alloc];omega)));have r4:=HS.out.r.below HB5.out;have r0:=r4.cell 0 (by omega);have r1:=r4.cell 1 (by omega);have r2:=r4.cell 2 (by omega);have r3:=r4.cell 3 (by omega);have f0:=r4.frozen 0;have f1:=r4.frozen 1;have f2:=r4.frozen 2;have f3:=r4.frozen 3;unfold nilS at r0 r1 r2 r3;clear hb5 r4)
    have hR:R = (noneF,16):=by rw [HR.out,HNO.out]
    obtain ⟨h4,hap⟩:=HND.out w5 (HS.out.below.trans (HB5.out.mono HS.out.below.size)) (by have:=HS.out.r.below HB5.out;unfold nilS at this;exact this) 16 hR
    generalize ((((w5.setCell ⟨w.heap.size + 1 + 1,0,none⟩ (.slice none 0 0)).setCell ⟨w.heap.size + 1 + 1,1,none⟩ (.slice none 0 0)).setCell ⟨w.heap.size + 1 + 1,2,none⟩ (.slice none 0 0)).setCell ⟨w.heap.size + 1 + 1,3,none⟩ (.slice none 0 0)) = wF at h4 hap ⊢
    have k0:=h4.cell 0 (by omega)
    have k1:=h4.cell 1 (by omega)
    have k2:=h4.cell 2 (by omega)
    have k3:=h4.cell 3 (by omega)
    exact bodyPost_ret (v:=.tuple #[.agg #[.slice none 0 0,.slice none 0 0,.slice none 0 0,.slice none 0 0],.int .i64 16]) (by simp [results,Tryd.results47,go_sem,k0,k1,k2,k3]) rfl hap
   ·have HSO:=Hush.mk hso
    have HT:=Hush.mk ht
    have HCUT:Hush (∀ W,RowKit.Below wr.heap.size wr W → Calls Tryd.prog 100 #[.pointer (some ⟨w.heap.size,0,none⟩),.agg #[.int .i64 lv,.int .u64 num]] W fun e w'=>e = .returned (.bool true) ∧ GoJ w cv gv G F (j + 1) w'):=⟨fun W hW=>by
     refine (cut_some w.heap.size (w.heap.size + 3) lv num F' v W l (by omega) hlv (HS.out.four.below hW) (HS.out.lv.below hW) (Nat.le_trans HS.out.size hW.size) HLE.out ht).mono fun e w' ⟨h1,v',h2,h3,h4⟩=>⟨h1,_,v',(HS.out.step hW).keep h2 h3 h4,HSO.out,fun i=>?_⟩
     unfold upd
     by_cases e:i = lv
     ·subst e;rw [if_pos rfl];exact (takeOut_sub _ _ _ HT.out).trans (HSUB.out _)
     ·rw [if_neg e];exact HSUB.out i⟩
    clear ht hso
    go_wp2_with (go_at_call 100;refine (HCUT.out _ ((RowKit.Below.refl _ _).alloc (Nat.le_refl _) _)).mono ?_;rintro e w5 ⟨rfl,h5⟩;have H5:=Hush.mk h5;clear h5)
    go_roundw
    case rel=>exact ⟨j + 1,by go_num,by omega,H5⟩
    case measure=>simp [intOf];omega
  ·obtain rfl:j = G.length:=by omega
   obtain ⟨F1,v1,hst,hgo,hsub⟩:=HJ.out
   rw [List.drop_length] at hgo
   have HGO:Hush (R = if rightF (comeWith C F1) then (comeWith C F1,0) else (noneF,20)):=⟨by rw [HR.out,hgo];rfl⟩
   have HSUB:=Hush.mk hsub
   have HC0:Hush (CoJ w cv gv C F1 0 wr):=⟨F1,v1,hst,by rw [List.drop_zero],fun i=>Nat.le_refl _⟩
   have HL1:Hush (∀ i,i < 4 → (F1 i).length ≤ 100000):=⟨fun i hi=>Nat.le_trans (hsub i).length_le (HLEN.out i hi)⟩
   have cc3:=hst.come
   rw [HCV.out] at cc3
   clear hst hgo hsub HJ HR H4 HGR HLG HG2 a0 a1 a2 a3
   go_wp2
   clear cc3
   go_loopw [35] (fun iv wx=>∃ k:Nat,iv = .int .i64 k ∧ k ≤ C.length ∧ Hush (CoJ w cv gv C F1 k wx)) (fun iv _=>C.length - (intOf iv).toNat)
   case atStart=>exact ⟨0,by go_num,by omega,HC0⟩
   case round=>
    obtain ⟨k,rfl,hk,HK⟩:=hrel
    by_cases hlt2:k < C.length
    ·have hlt2z:(k:Int) < (C.length:Int):=by omega
     obtain ⟨kb,hkb⟩:∃ kb:Int,kb = 200:=⟨_,rfl⟩
     have hkb1:(k:Int) < kb:=by have:=HC2.out;omega
     have hkb2:kb ≤ 9000000:=by omega
     clear hkb
     obtain ⟨⟨cl,x⟩,hg⟩:∃ x,C[k]? = some x:=⟨_,List.getElem?_eq_getElem hlt2⟩
     obtain ⟨lv,hlv,hgl⟩:=HLC.out _ (List.mem_of_getElem? hg)
     simp only at hgl
     subst hgl
     obtain ⟨F',v,hst,hco,hlen⟩:=HK.out.come hg
     obtain ⟨ad,rfl,hrow⟩:=HCR.out wr hst.below (by omega)
     have hx:=hrow k _ hg
     obtain ⟨y0,y1,y2,y3,y4⟩:=x
     simp only [ComeAt] at hx
     obtain ⟨x0,x1,x2,x3,x4,x5⟩:=hx
     obtain ⟨AL,cL,hvl⟩:=own_slice (hst.lv.own lv hlv)
     obtain ⟨n,hn⟩:∃ n,n = (F' lv).length:=⟨_,rfl⟩
     rw [← hn] at hvl
     have hn2:n ≤ 100200:=by have:=hlen lv;have:=HL1.out lv hlv;have:=HC2.out;omega
     have hlvz:(lv:Int) < 4:=by omega
     have hlv0:(0:Int) ≤ (lv:Int):=by omega
     have hob:∀ q,(Value.slice AL n cL).ownBlock = some q → w.heap.size + 3 ≤ q ∧ q < wr.heap.size:=fun q hq=>own_lt (hst.lv.own lv hlv) (by rw [hvl];exact hq)
     obtain ⟨ab,hab⟩:∃ ab,ab = wr.heap.size:=⟨_,rfl⟩
     obtain ⟨w5,hw5⟩:∃ w5,w5 = wr.alloc (.cells #[.int .i64 lv,.int .u64 y0,.int .u64 y1,.int .u64 y2,.string y3,.string y4] 107):=⟨_,rfl⟩
     have b5:RowKit.Below wr.heap.size wr w5:=by rw [hw5];exact (RowKit.Below.refl _ _).alloc (Nat.le_refl _) _
     have z5:w5.heap.size = wr.heap.size + 1:=by rw [hw5,size_alloc]
     have HA5:Hush (∀ W,RowKit.Below w5.heap.size w5 W → W.cell? ⟨ab,0,none⟩ = some (.int .i64 lv) ∧ (W.cell? ⟨ab,1,none⟩ = some (.int .u64 y0) ∧ W.cell? ⟨ab,2,none⟩ = some (.int .u64 y1) ∧ W.cell? ⟨ab,3,none⟩ = some (.int .u64 y2) ∧ W.cell? ⟨ab,4,none⟩ = some (.string y3) ∧ W.cell? ⟨ab,5,none⟩ = some (.string y4)) ∧ W.cell? ⟨w.heap.size,lv,none⟩ = some (.slice AL n cL)):=⟨fun W hW=>by
      have six:∀ i u,(#[Value.int .i64 lv,.int .u64 y0,.int .u64 y1,.int .u64 y2,.string y3,.string y4]:Array Value)[i]? = some u → W.cell? ⟨ab,i,none⟩ = some u:=fun i u h=>by
       have e:=six_at wr _ _ _ _ _ _ 107 ab hab i u h
       rw [← hw5] at e
       exact (hW.cell (World.block_lt_of_cell? _ _ e)).trans e
      have hv:=((hst.step b5).step hW).four.cell lv hlv
      rw [hvl] at hv
      exact ⟨six 0 _ rfl,⟨six 1 _ rfl,six 2 _ rfl,six 3 _ rfl,six 4 _ rfl,six 5 _ rfl⟩,hv⟩⟩
     have HOX:Hush (∀ W,RowKit.Below w5.heap.size w5 W → W.ownsRow (w.heap.size + 3) 97 5 (.slice AL n cL) n (cellsF (F' lv))):=⟨fun W hW=>by
      have:=((hst.step b5).step hW).lv.own lv hlv
      rwa [hvl,← hn] at this⟩
     have HADD:Hush (∀ Wm w9 g cap,RowKit.Below w5.heap.size w5 Wm → Wm.grownBy w9 (Value.slice AL n cL).ownBlock → w9.ownsRow (w.heap.size + 3) 97 5 (.slice (some ⟨g,0,none⟩) (n + 1) cap) (n + 1) (cellsF (F' lv) ++ encF ⟨y0,y1,y2,y3,y4⟩) → ((Value.slice AL n cL).ownBlock = some g ∨ g = Wm.heap.size) →
       Hush (CoJ w cv gv C F1 (k + 1) (w9.setCell ⟨w.heap.size,lv,none⟩ (.slice (some ⟨g,0,none⟩) (n + 1) cap))) ∧ w9.cell? ⟨ab,0,none⟩ = some (.int .i64 lv) ∧ w9.cell? ⟨w.heap.size,lv,none⟩ = some (.slice AL n cL) ∧ w9.frozen? ⟨w.heap.size,lv,none⟩ = false):=⟨fun Wm w9 g cap hWm hg9 hown hat=>by
      have hWr:RowKit.Below wr.heap.size wr Wm:=b5.trans (hWm.mono (by omega))
      have hs9:w5.heap.size ≤ Wm.heap.size:=hWm.size
      have hadd:=hst.add (f:=⟨y0,y1,y2,y3,y4⟩) hlv hWr (by rw [hvl];exact hg9) (by rw [← hn];exact hown) (by rw [hvl];exact hat)
      rw [← hn] at hadd
      have c9:∀ q i u,q < w5.heap.size → (∀ z,(Value.slice AL n cL).ownBlock = some z → q ≠ z) → Wm.cell? ⟨q,i,none⟩ = some u → w9.cell? ⟨q,i,none⟩ = some u:=fun q i u h1 h2 h3=>(World.cell?_of_block (a:=⟨q,i,none⟩) (hg9.block q (by omega) (fun e=>h2 q e.symm rfl))).trans h3
      have hA:=HA5.out Wm hWm
      have hbv:w.heap.size < wr.heap.size:=by have:=hst.size;omega
      refine ⟨⟨_,_,hadd,hco,upd_len hlen⟩,c9 ab 0 _ (by omega) (fun z hz e=>by have:=hob z hz;omega) hA.1,c9 w.heap.size lv _ (by omega) (fun z hz e=>by have:=hob z hz;omega) hA.2.2,?_⟩
      have hf:=((hst.step b5).step hWm).four.frozen lv
      exact (World.frozen?_of_block (a:=⟨w.heap.size,lv,none⟩) (hg9.block w.heap.size (by omega) (fun e=>by have:=hob _ e.symm;omega))).trans hf⟩
     have HZ5:Hush (w.heap.size + 3 ≤ w5.heap.size):=⟨by have:=hst.size;omega⟩
     clear hrow hg hst hco hlen HK hob hvl hn z5 b5
     go_wp2_with fail
     rw [← hw5,← hab]
     clear hw5 hab x0 x1 x2 x3 x4 x5
     obtain ⟨q0,⟨q1,q2,q3,q4,q5⟩,q6⟩:=HA5.out w5.drew (RowKit.Below.refl _ _).drew
     have z0:=fun o=>(HA5.out (w5.alloc o) ((RowKit.Below.refl _ _).alloc (Nat.le_refl _) o)).1
     have z6:=fun o=>(HA5.out (w5.alloc o) ((RowKit.Below.refl _ _).alloc (Nat.le_refl _) o)).2.2
     have z1:=fun o=>(HA5.out (w5.alloc o) ((RowKit.Below.refl _ _).alloc (Nat.le_refl _) o)).2.1.1
     have z2:=fun o=>(HA5.out (w5.alloc o) ((RowKit.Below.refl _ _).alloc (Nat.le_refl _) o)).2.1.2.1
     have z3:=fun o=>(HA5.out (w5.alloc o) ((RowKit.Below.refl _ _).alloc (Nat.le_refl _) o)).2.1.2.2.1
     have z4:=fun o=>(HA5.out (w5.alloc o) ((RowKit.Below.refl _ _).alloc (Nat.le_refl _) o)).2.1.2.2.2.1
     have z5:=fun o=>(HA5.out (w5.alloc o) ((RowKit.Below.refl _ _).alloc (Nat.le_refl _) o)).2.1.2.2.2.2
     go_region_law (first
      | (refine step_append_lies (w:=_) rfl _ _ 76 rfl (w.heap.size + 3) 97 i0 (.agg #[.int .u64 0,.int .u64 0,.int .u64 0,.string ⟨#[]⟩,.string ⟨#[]⟩]) 5 56 Tryd.underlying76 hi hz0 hz1 hz2 rfl (by decide) (.slice AL n cL) n (cellsF (F' lv)) rfl (HOX.out _ (((RowKit.Below.refl _ _).alloc (Nat.le_refl _) _).drew)) ⟨_,0,none⟩ 1 1 (encF ⟨y0,y1,y2,y3,y4⟩) rfl rfl (five_new w5 ⟨y0,y1,y2,y3,y4⟩ 97) (encF_one _) (by decide) (by unfold maxLen;omega) (by omega) (by show w.heap.size + 3 ≤ (w5.alloc _).heap.size;rw [size_alloc];have:=HZ5.out;omega) _ rfl ?_;intro g cap w9 hown hg9 hat hlt9;obtain ⟨HNX,v0,v1,v2⟩:=HADD.out _ w9 g cap (((RowKit.Below.refl _ _).alloc (Nat.le_refl _) _).drew) hg9 hown hat;clear hown hg9 hat hlt9))
     all_goals
      go_wp2
      go_roundw
      case rel=>exact ⟨k + 1,by go_num,by omega,HNX⟩
      case measure=>simp [intOf];omega
    ·obtain rfl:k = C.length:=by omega
     obtain ⟨F2,v2,hst,hco,hlen⟩:=HK.out
     rw [List.drop_length] at hco
     have hco':comeApp C F1 = F2:=hco
     have HCO:=Hush.mk hco'
     have HL2:Hush (∀ i,i < 4 → (F2 i).length ≤ 1000000):=⟨fun i hi=>by have:=hlen i;have:=HL1.out i hi;have:=HC2.out;omega⟩
     have HW2:Hush (WfF F2):=⟨by
      rw [← hco']
      exact comeApp_wf (fun i hi f hf=>HWF.out i hi f ((HSUB.out i).subset hf)) HCW.out⟩
     have HS0:Hush (SoJ w cv gv F2 0 wr):=⟨F2,v2,hst,fun i=>List.Perm.refl _,fun i hi=>by omega⟩
     have HF1:Hush (∀ i,i < 4 → Strict i (F1 i)):=⟨fun i hi=>(HF.out i hi).sublist (HSUB.out i)⟩
     clear hst hco hco' hlen HK HC0 HCR HLC HL1 HC2 HF HWF HCW HSUB HLEN
     go_wp2
     go_loopw [53] (fun iv wx=>∃ j:Nat,iv = .int .i64 j ∧ j ≤ 4 ∧ Hush (SoJ w cv gv F2 j wx)) (fun iv _=>4 - (intOf iv).toNat)
     case atStart=>exact ⟨0,by go_num,by omega,HS0⟩
     case round=>
      obtain ⟨j,rfl,hj4,HJ⟩:=hrel
      by_cases hlt3:j < 4
      ·have hltz:(j:Int) < 4:=by omega
       obtain ⟨F',v,hst,hp,hso⟩:=HJ.out
       have HOR:Hush (∀ W,Calls Tryd.prog 102 #[.int .i64 j] W fun e w'=>e = .returned (.func (.func (fnL j)) #[] #[]) ∧ w' = W):=⟨fun W=>by
        have:=order_on j W
        rwa [show (if ((j:Nat):Int) = 0 then 135 else 137) = fnL j from by unfold fnL;by_cases h:j = 0 <;> simp [h]] at this⟩
       obtain ⟨AL,cL,hvl⟩:=own_slice (hst.lv.own j hlt3)
       have HSO:Hush (∀ W,RowKit.Below wr.heap.size wr W → Calls Tryd.prog 101 #[.slice AL (F' j).length cL,.func (.func (fnL j)) #[] #[]] W fun e w'=>e = .returned (.tuple #[]) ∧ Hush (SoJ w cv gv F2 (j + 1) w')):=⟨fun W hW=>by
        have hs:=hst.step hW
        have hlen:(F' j).length ≤ 1000000000:=by rw [(hp j).length_eq];have:=HL2.out j hlt3;omega
        have:=sort_own j (w.heap.size + 3) (v j) (F' j) W (hs.lv.own j hlt3) hlen
        rw [hvl] at this
        refine this.mono fun e w' ⟨h1,L',h2,h3,h4,h5⟩=>⟨h1,⟨upd F' j L',v,?_,fun i=>?_,fun i hi=>?_⟩⟩
        ·have ob:∀ k,(v j).ownBlock = some k → w.heap.size + 3 ≤ k:=fun k hk=>(own_lt (hs.lv.own j hlt3) hk).1
         have hl:=hs.lv.turn (L':=L') (v':=v j) hlt3 (by rw [hvl];exact h5) (by rw [hvl,h2.length_eq];exact h4) (fun k hk=>.inl hk)
         have e2:(fun x=>if x = j then v j else v x) = v:=by funext x;by_cases e:x = j <;> simp [e]
         rw [e2] at hl
         rw [← hvl] at h5
         have hz:=hs.size
         exact hs.keep (hs.four.keep (h5.block _ (by omega) (fun e=>by have:=ob _ e.symm;omega))) hl (Keeps.grown h5 hz ob)
        ·unfold upd
         by_cases e:i = j
         ·subst e;rw [if_pos rfl];exact h2.trans (hp _)
         ·rw [if_neg e];exact hp i
        ·unfold upd
         by_cases e:i = j
         ·subst e;rw [if_pos rfl];exact h3
         ·rw [if_neg e];exact hso i (by omega)⟩
       have v1:wr.drew.cell? ⟨w.heap.size,j,none⟩ = some (.slice AL (F' j).length cL):=by
        have:=hst.four.cell j hlt3
        rwa [hvl] at this
       obtain ⟨n,hn⟩:∃ n,n = (F' j).length:=⟨_,rfl⟩
       rw [← hn] at v1 HSO
       clear hst hp hso HJ hvl hn
       have j0:(0:Int) ≤ (j:Int):=by omega
       go_wp2_with fail
       go_region_with ((first | (go_at_call 102;refine (HOR.out _).mono ?_;rintro e w7 ⟨rfl,rfl⟩) | (go_at_call 101;refine (HSO.out _ (by first | exact RowKit.Below.refl _ _ | exact (RowKit.Below.refl _ _).drew)).mono ?_;rintro e w8 ⟨rfl,HNX⟩)))
       all_goals
        go_wp2
        go_roundw
        case rel=>exact ⟨j + 1,by go_num,by omega,HNX⟩
        case measure=>simp [intOf];omega
      ·obtain rfl:j = 4:=by omega
       obtain ⟨F',v,hst,hp,hso⟩:=HJ.out
       obtain ⟨A2,c2,hs4⟩:=hst.lv.slice
       have hlat:∀ i,i < 4 → LAt wr (A2 i) (F' i):=fun i hi=>by
        obtain ⟨A3,c3,h1,h2,_⟩:=own_at (hst.lv.own i hi)
        rw [(hs4 i hi).1] at h1
        injection h1 with h1 _ _
        rwa [h1]
       have law:=apply_law C F1 F' HF1.out (fun i hi=>by rw [HCO.out];exact hp i) hso
       have hlen:∀ i,i < 4 → (F' i).length ≤ 1000000:=fun i hi=>by rw [(hp i).length_eq];exact HL2.out i hi
       have hwf:WfF F':=fun i hi f hf=>HW2.out i hi f ((hp i).mem_iff.1 hf)
       have HRI:Hush (Calls Tryd.prog 44 #[.agg #[.slice (A2 0) (F' 0).length (c2 0),.slice (A2 1) (F' 1).length (c2 1),.slice (A2 2) (F' 2).length (c2 2),.slice (A2 3) (F' 3).length (c2 3)]] wr fun e w'=>e = .returned (.bool (rightF F')) ∧ RowKit.Below wr.heap.size wr w'):=
        ⟨right_on _ _ _ _ _ _ _ _ _ _ _ _ wr ((hlat 0 (by omega)).level (hlen 0 (by omega)) (hwf 0 (by omega))) ((hlat 1 (by omega)).level (hlen 1 (by omega)) (hwf 1 (by omega))) ((hlat 2 (by omega)).level (hlen 2 (by omega)) (hwf 2 (by omega))) ((hlat 3 (by omega)).level (hlen 3 (by omega)) (hwf 3 (by omega)))⟩
       have g0:=hst.four.cell 0 (by omega)
       have g1:=hst.four.cell 1 (by omega)
       have g2:=hst.four.cell 2 (by omega)
       have g3:=hst.four.cell 3 (by omega)
       rw [(hs4 0 (by omega)).1] at g0
       rw [(hs4 1 (by omega)).1] at g1
       rw [(hs4 2 (by omega)).1] at g2
       rw [(hs4 3 (by omega)).1] at g3
       have HST:=Hush.mk hst
       have HLT:=Hush.mk hlat
       have HS4:=Hush.mk hs4
       by_cases hr:rightF F' = true
       ·rw [hr] at HRI
        have HEQ:Hush (∀ i,i < 4 → F' i = comeWith C F1 i):=⟨law.2 hr⟩
        have HRR:Hush (R = (comeWith C F1,0)):=⟨by rw [HGO.out,← law.1,hr,if_pos rfl]⟩
        clear law hr hlen hwf hp hso hst hlat hs4 HJ
        go_wp2_with (go_at_call 44;refine HRI.out.mono ?_;rintro e w9 ⟨rfl,hb9⟩;have HB9:=Hush.mk hb9;have g0:=(hb9.cell (World.block_lt_of_cell? wr _ g0)).trans g0;have g1:=(hb9.cell (World.block_lt_of_cell? wr _ g1)).trans g1;have g2:=(hb9.cell (World.block_lt_of_cell? wr _ g2)).trans g2;have g3:=(hb9.cell (World.block_lt_of_cell? wr _ g3)).trans g3;have r4:=HST.out.r.below hb9;have r0:=r4.cell 0 (by omega);have r1:=r4.cell 1 (by omega);have r2:=r4.cell 2 (by omega);have r3:=r4.cell 3 (by omega);have f0:=r4.frozen 0;have f1:=r4.frozen 1;have f2:=r4.frozen 2;have f3:=r4.frozen 3;unfold nilS at r0 r1 r2 r3;clear hb9 r4)
        have HFF:Hush (∀ wF,wF = ((((w9.setCell ⟨w.heap.size + 1 + 1,0,none⟩ (.slice (A2 0) (F' 0).length (c2 0))).setCell ⟨w.heap.size + 1 + 1,1,none⟩ (.slice (A2 1) (F' 1).length (c2 1))).setCell ⟨w.heap.size + 1 + 1,2,none⟩ (.slice (A2 2) (F' 2).length (c2 2))).setCell ⟨w.heap.size + 1 + 1,3,none⟩ (.slice (A2 3) (F' 3).length (c2 3))) →
          (wF.cell? ⟨w.heap.size + 1 + 1,0,none⟩ = some (.slice (A2 0) (F' 0).length (c2 0)) ∧ wF.cell? ⟨w.heap.size + 1 + 1,1,none⟩ = some (.slice (A2 1) (F' 1).length (c2 1)) ∧ wF.cell? ⟨w.heap.size + 1 + 1,2,none⟩ = some (.slice (A2 2) (F' 2).length (c2 2)) ∧ wF.cell? ⟨w.heap.size + 1 + 1,3,none⟩ = some (.slice (A2 3) (F' 3).length (c2 3))) ∧
          ApPost w R (.returned (.tuple #[.agg #[.slice (A2 0) (F' 0).length (c2 0),.slice (A2 1) (F' 1).length (c2 1),.slice (A2 2) (F' 2).length (c2 2),.slice (A2 3) (F' 3).length (c2 3)],.int .i64 0])) wF):=⟨fun wF hF=>by
         have h9:=HST.out.step HB9.out
         have k:=four_sets h9.r (.slice (A2 0) (F' 0).length (c2 0)) (.slice (A2 1) (F' 1).length (c2 1)) (.slice (A2 2) (F' 2).length (c2 2)) (.slice (A2 3) (F' 3).length (c2 3))
         have k0:=k.cell 0 (by omega)
         have k1:=k.cell 1 (by omega)
         have k2:=k.cell 2 (by omega)
         have k3:=k.cell 3 (by omega)
         simp only [if_true,Nat.one_ne_zero,if_false,(by decide:¬ (2:Nat) = 0),(by decide:¬ (2:Nat) = 1),(by decide:¬ (3:Nat) = 0),(by decide:¬ (3:Nat) = 1),(by decide:¬ (3:Nat) = 2)] at k0 k1 k2 k3
         have hl:=Lv.sets h9.lv (b:=w.heap.size + 1 + 1) (by omega) (.slice (A2 0) (F' 0).length (c2 0)) (.slice (A2 1) (F' 1).length (c2 1)) (.slice (A2 2) (F' 2).length (c2 2)) (.slice (A2 3) (F' 3).length (c2 3))
         have hb:=below_sets h9.below (b:=w.heap.size + 1 + 1) (by omega) (.slice (A2 0) (F' 0).length (c2 0)) (.slice (A2 1) (F' 1).length (c2 1)) (.slice (A2 2) (F' 2).length (c2 2)) (.slice (A2 3) (F' 3).length (c2 3))
         rw [← hF] at k0 k1 k2 k3 hl hb
         refine ⟨⟨k0,k1,k2,k3⟩,A2,c2,?_,fun i hi=>?_,hb⟩
         ·rw [HRR.out]
          show _ = Ending.returned (.tuple #[.agg #[.slice (A2 0) (comeWith C F1 0).length (c2 0),.slice (A2 1) (comeWith C F1 1).length (c2 1),.slice (A2 2) (comeWith C F1 2).length (c2 2),.slice (A2 3) (comeWith C F1 3).length (c2 3)],.int .i64 0])
          rw [← HEQ.out 0 (by omega),← HEQ.out 1 (by omega),← HEQ.out 2 (by omega),← HEQ.out 3 (by omega)]
         ·rw [HRR.out]
          show LAt wF (A2 i) (comeWith C F1 i) ∧ (comeWith C F1 i).length ≤ c2 i
          rw [← HEQ.out i hi]
          obtain ⟨A3,c3,h1,h2,h3⟩:=own_at (hl.own i hi)
          rw [(HS4.out i hi).1] at h1
          injection h1 with h1 _ h4
          rw [h1,h4]
          exact ⟨h2,h3⟩⟩
        obtain ⟨wF,hwF⟩:∃ wF,wF = ((((w9.setCell ⟨w.heap.size + 1 + 1,0,none⟩ (.slice (A2 0) (F' 0).length (c2 0))).setCell ⟨w.heap.size + 1 + 1,1,none⟩ (.slice (A2 1) (F' 1).length (c2 1))).setCell ⟨w.heap.size + 1 + 1,2,none⟩ (.slice (A2 2) (F' 2).length (c2 2))).setCell ⟨w.heap.size + 1 + 1,3,none⟩ (.slice (A2 3) (F' 3).length (c2 3))):=⟨_,rfl⟩
        obtain ⟨⟨k0,k1,k2,k3⟩,hap⟩:=HFF.out wF hwF
        rw [← hwF]
        exact bodyPost_ret (v:=.tuple #[.agg #[.slice (A2 0) (F' 0).length (c2 0),.slice (A2 1) (F' 1).length (c2 1),.slice (A2 2) (F' 2).length (c2 2),.slice (A2 3) (F' 3).length (c2 3)],.int .i64 0]) (by simp [results,Tryd.results47,go_sem,k0,k1,k2,k3]) rfl hap
       ·have hr':rightF F' = false:=by simpa using hr
        rw [hr'] at HRI
        have hRR:R = (noneF,20):=by rw [HGO.out,← law.1,hr',if_neg (by simp)]
        have HRR:=Hush.mk hRR
        clear law hr hr' hlen hwf hp hso hst hlat hs4 HJ hRR
        go_wp2_with (go_at_call 44;refine HRI.out.mono ?_;rintro e w9 ⟨rfl,hb9⟩;have HB9:=Hush.mk hb9;have r4:=HST.out.r.below hb9;have r0:=r4.cell 0 (by omega);have r1:=r4.cell 1 (by omega);have r2:=r4.cell 2 (by omega);have r3:=r4.cell 3 (by omega);have f0:=r4.frozen 0;have f1:=r4.frozen 1;have f2:=r4.frozen 2;have f3:=r4.frozen 3;unfold nilS at r0 r1 r2 r3;clear hb9 r4)
        obtain ⟨h4,hap⟩:=HND.out w9 (HST.out.below.trans (HB9.out.mono HST.out.below.size)) (by have:=HST.out.r.below HB9.out;unfold nilS at this;exact this) 20 HRR.out
        generalize ((((w9.setCell ⟨w.heap.size + 1 + 1,0,none⟩ (.slice none 0 0)).setCell ⟨w.heap.size + 1 + 1,1,none⟩ (.slice none 0 0)).setCell ⟨w.heap.size + 1 + 1,2,none⟩ (.slice none 0 0)).setCell ⟨w.heap.size + 1 + 1,3,none⟩ (.slice none 0 0)) = wF at h4 hap ⊢
        have k0:=h4.cell 0 (by omega)
        have k1:=h4.cell 1 (by omega)
        have k2:=h4.cell 2 (by omega)
        have k3:=h4.cell 3 (by omega)
        exact bodyPost_ret (v:=.tuple #[.agg #[.slice none 0 0,.slice none 0 0,.slice none 0 0,.slice none 0 0],.int .i64 20]) (by simp [results,Tryd.results47,go_sem,k0,k1,k2,k3]) rfl hap
end Go.Proofs.YteilnbnnhocciaaDoor.V

/-! V31 -/
namespace Go.Proofs.YteilnbnnhocciaaDoor.V
open Go.Proofs Go.Sort Go.Proofs.YteilnbnnhocciaaDoorM Go.Proofs.YteilnbnnhocciaaDoorW.PrintWords Go.Proofs.YteilnbnnhocciaaDoor.KV
def leB (a b:ByteArray):Bool:=!Op.bytesLess b.toList a.toList
theorem leB_iff (a b:ByteArray):leB a b = true ↔ a.data.toList ≤ b.data.toList:=by
 unfold leB
 rw [Bool.not_eq_true',← Bool.not_eq_true,bl_lt,ByteArray.toList_eq,ByteArray.toList_eq,List.not_lt]
theorem leB_refl (a:ByteArray):leB a a = true:=(leB_iff a a).2 (List.le_refl _)
theorem leB_trans {a b c:ByteArray} (h1:leB a b = true) (h2:leB b c = true):leB a c = true:=(leB_iff a c).2 (List.le_trans ((leB_iff a b).1 h1) ((leB_iff b c).1 h2))
theorem leB_antisymm {a b:ByteArray} (h1:leB a b = true) (h2:leB b a = true):a = b:=by
 have h:=List.le_antisymm ((leB_iff a b).1 h1) ((leB_iff b a).1 h2)
 exact ByteArray.ext (Array.toList_inj.1 h)
def touchB (lo hi:ByteArray) (f:FileV):Bool:=leB f.least hi && leB lo f.most
def over (L:List FileV) (lo hi:ByteArray):List FileV:=L.filter (touchB lo hi)
theorem touchB_mono {lo hi lo' hi':ByteArray} {f:FileV} (h:touchB lo hi f = true) (h1:leB lo' lo = true) (h2:leB hi hi' = true):touchB lo' hi' f = true:=by
 unfold touchB at *
 rw [Bool.and_eq_true] at *
 exact ⟨leB_trans h.1 h2,leB_trans h1 h.2⟩
def minB (a b:ByteArray):ByteArray:=if Op.bytesLess b.toList a.toList then b else a
def maxB (a b:ByteArray):ByteArray:=if Op.bytesLess a.toList b.toList then b else a
def loFrom (s:ByteArray) (L:List FileV):ByteArray:=L.foldl (fun s f=>minB s f.least) s
def hiFrom (s:ByteArray) (L:List FileV):ByteArray:=L.foldl (fun s f=>maxB s f.most) s
def loL:List FileV → ByteArray
 | []=>⟨#[]⟩
 | x :: r=>loFrom x.least (x :: r)
def hiL:List FileV → ByteArray
 | []=>⟨#[]⟩
 | x :: r=>hiFrom x.most (x :: r)
theorem minB_le (a b:ByteArray):leB (minB a b) a = true ∧ leB (minB a b) b = true ∧ (minB a b = a ∨ minB a b = b):=by
 unfold minB
 split
 ·next h=>
  refine ⟨?_,leB_refl _,.inr rfl⟩
  rw [leB_iff]
  rw [bl_lt,ByteArray.toList_eq,ByteArray.toList_eq] at h
  exact List.le_of_lt h
 ·next h=>exact ⟨leB_refl _,by unfold leB;simpa using h,.inl rfl⟩
theorem maxB_le (a b:ByteArray):leB a (maxB a b) = true ∧ leB b (maxB a b) = true ∧ (maxB a b = a ∨ maxB a b = b):=by
 unfold maxB
 split
 ·next h=>
  refine ⟨?_,leB_refl _,.inr rfl⟩
  rw [leB_iff]
  rw [bl_lt,ByteArray.toList_eq,ByteArray.toList_eq] at h
  exact List.le_of_lt h
 ·next h=>exact ⟨leB_refl _,by unfold leB;simpa using h,.inl rfl⟩
theorem loFrom_spec:∀ (L:List FileV) (s:ByteArray),leB (loFrom s L) s = true ∧ (∀ f ∈ L,leB (loFrom s L) f.least = true) ∧ (loFrom s L = s ∨ ∃ f ∈ L,loFrom s L = f.least)
 | [],s=>⟨leB_refl _,fun f hf=>(by cases hf),.inl rfl⟩
 | x :: r,s=>by
  obtain ⟨h1,h2,h3⟩:=loFrom_spec r (minB s x.least)
  obtain ⟨m1,m2,m3⟩:=minB_le s x.least
  show leB (loFrom (minB s x.least) r) s = true ∧ (∀ f ∈ x :: r,leB (loFrom (minB s x.least) r) f.least = true) ∧ (loFrom (minB s x.least) r = s ∨ ∃ f ∈ x :: r,loFrom (minB s x.least) r = f.least)
  refine ⟨leB_trans h1 m1,fun f hf=>?_,?_⟩
  ·rcases List.mem_cons.1 hf with rfl | hf
   ·exact leB_trans h1 m2
   ·exact h2 f hf
  ·rcases h3 with h3 | ⟨f,hf,h3⟩
   ·rw [h3]
    rcases m3 with m3 | m3
    ·exact .inl m3
    ·exact .inr ⟨x,List.mem_cons_self,m3⟩
   ·exact .inr ⟨f,List.mem_cons_of_mem _ hf,h3⟩
theorem hiFrom_spec:∀ (L:List FileV) (s:ByteArray),leB s (hiFrom s L) = true ∧ (∀ f ∈ L,leB f.most (hiFrom s L) = true) ∧ (hiFrom s L = s ∨ ∃ f ∈ L,hiFrom s L = f.most)
 | [],s=>⟨leB_refl _,fun f hf=>(by cases hf),.inl rfl⟩
 | x :: r,s=>by
  obtain ⟨h1,h2,h3⟩:=hiFrom_spec r (maxB s x.most)
  obtain ⟨m1,m2,m3⟩:=maxB_le s x.most
  show leB s (hiFrom (maxB s x.most) r) = true ∧ (∀ f ∈ x :: r,leB f.most (hiFrom (maxB s x.most) r) = true) ∧ (hiFrom (maxB s x.most) r = s ∨ ∃ f ∈ x :: r,hiFrom (maxB s x.most) r = f.most)
  refine ⟨leB_trans m1 h1,fun f hf=>?_,?_⟩
  ·rcases List.mem_cons.1 hf with rfl | hf
   ·exact leB_trans m2 h1
   ·exact h2 f hf
  ·rcases h3 with h3 | ⟨f,hf,h3⟩
   ·rw [h3]
    rcases m3 with m3 | m3
    ·exact .inl m3
    ·exact .inr ⟨x,List.mem_cons_self,m3⟩
   ·exact .inr ⟨f,List.mem_cons_of_mem _ hf,h3⟩
theorem loL_spec:∀ {L:List FileV},L ≠ [] → (∀ f ∈ L,leB (loL L) f.least = true) ∧ (∃ f ∈ L,loL L = f.least)
 | [],h=>absurd rfl h
 | x :: r,_=>by
  obtain ⟨h1,h2,h3⟩:=loFrom_spec (x :: r) x.least
  exact ⟨h2,h3.elim (fun h=>⟨x,List.mem_cons_self,h⟩) id⟩
theorem hiL_spec:∀ {L:List FileV},L ≠ [] → (∀ f ∈ L,leB f.most (hiL L) = true) ∧ (∃ f ∈ L,hiL L = f.most)
 | [],h=>absurd rfl h
 | x :: r,_=>by
  obtain ⟨h1,h2,h3⟩:=hiFrom_spec (x :: r) x.most
  exact ⟨h2,h3.elim (fun h=>⟨x,List.mem_cons_self,h⟩) id⟩
theorem loL_eq {L M:List FileV} (hL:L ≠ []) (hM:M ≠ []) (h:∀ f,f ∈ L ↔ f ∈ M):loL L = loL M:=by
 obtain ⟨a1,a,ha,a2⟩:=loL_spec hL
 obtain ⟨b1,b,hb,b2⟩:=loL_spec hM
 refine leB_antisymm ?_ ?_
 ·rw [b2];exact a1 b ((h b).2 hb)
 ·rw [a2];exact b1 a ((h a).1 ha)
theorem hiL_eq {L M:List FileV} (hL:L ≠ []) (hM:M ≠ []) (h:∀ f,f ∈ L ↔ f ∈ M):hiL L = hiL M:=by
 obtain ⟨a1,a,ha,a2⟩:=hiL_spec hL
 obtain ⟨b1,b,hb,b2⟩:=hiL_spec hM
 refine leB_antisymm ?_ ?_
 ·rw [a2];exact b1 a ((h a).1 ha)
 ·rw [b2];exact a1 b ((h b).2 hb)
inductive Cl (l:List FileV) (x0:FileV):FileV → Prop
 | base:Cl l x0 x0
 | step {a b f:FileV}:Cl l x0 a → Cl l x0 b → f ∈ l → touchB a.least b.most f = true → Cl l x0 f
theorem Cl.mem {l:List FileV} {x0 f:FileV} (h0:x0 ∈ l) (h:Cl l x0 f):f ∈ l:=by
 cases h with
 | base=>exact h0
 | step _ _ h _=>exact h
structure Shut (l:List FileV) (x0:FileV) (S:List FileV):Prop where
 first:x0 ∈ S
 sub:∀ f ∈ S,Cl l x0 f
 full:∀ f ∈ l,touchB (loL S) (hiL S) f = true → f ∈ S
theorem Shut.ne {l S:List FileV} {x0:FileV} (h:Shut l x0 S):S ≠ []:=fun e=>by have:=h.first;rw [e] at this;cases this
theorem Shut.mem_iff {l S:List FileV} {x0:FileV} (h:Shut l x0 S) (f:FileV):f ∈ S ↔ Cl l x0 f:=by
 refine ⟨h.sub f,fun hc=>?_⟩
 induction hc with
 | base=>exact h.first
 | step _ _ hf ht iha ihb=>exact h.full _ hf (touchB_mono ht ((loL_spec h.ne).1 _ iha) ((hiL_spec h.ne).1 _ ihb))
theorem filter_nums:∀ {l S:List FileV},S.Sublist l → (nums l).Nodup → l.filter (fun f=>(nums S).contains f.num) = S:=by
 intro l S h
 induction h with
 | slnil=>intro _;rfl
 | @cons S r a h ih=>
  intro hn
  have hn':=List.nodup_cons.1 hn
  have:(nums S).contains a.num = false:=by
   rw [Bool.eq_false_iff]
   intro e
   exact hn'.1 ((h.map FileV.num).subset (List.contains_iff_mem.1 e))
  rw [List.filter_cons,this]
  exact ih hn'.2
 | @cons_cons S r a h ih=>
  intro hn
  have hn':=List.nodup_cons.1 hn
  have e1:(nums (a :: S)).contains a.num = true:=List.contains_iff_mem.2 List.mem_cons_self
  rw [List.filter_cons,e1]
  refine congrArg (a :: ·) ((List.filter_congr (fun f hf=>?_)).trans (ih hn'.2))
  have ne:f.num ≠ a.num:=fun e=>hn'.1 (by rw [← e];exact List.mem_map_of_mem hf)
  show (a.num :: nums S).contains f.num = _
  rw [List.contains_cons]
  simp [ne]
theorem num_inj:∀ {l:List FileV},(nums l).Nodup → ∀ {f g:FileV},f ∈ l → g ∈ l → f.num = g.num → f = g
 | a :: r,hn,f,g,hf,hg,e=>by
  have hn':=List.nodup_cons.1 hn
  rcases List.mem_cons.1 hf with h1 | h1
  ·rcases List.mem_cons.1 hg with h2 | h2
   ·rw [h1,h2]
   ·exact absurd (by rw [← h1,e];exact List.mem_map_of_mem h2) hn'.1
  ·rcases List.mem_cons.1 hg with h2 | h2
   ·exact absurd (by rw [← h2,← e];exact List.mem_map_of_mem h1) hn'.1
   ·exact num_inj hn'.2 h1 h2 e
theorem num_mem {l S:List FileV} (hn:(nums l).Nodup) (hS:∀ f ∈ S,f ∈ l) {f:FileV} (hf:f ∈ l):f.num ∈ nums S ↔ f ∈ S:=by
 refine ⟨fun h=>?_,fun h=>List.mem_map_of_mem h⟩
 obtain ⟨g,hg,e⟩:=List.mem_map.1 h
 rw [← num_inj hn (hS g hg) hf e]
 exact hg
theorem shut_same {l S T:List FileV} {x0:FileV} (hn:(nums l).Nodup) (h0:x0 ∈ l) (hS:Shut l x0 S) (hT:Shut l x0 T) (hsub:S.Sublist l) :
  l.filter (fun f=>(nums T).contains f.num) = S ∧ loL T = loL S ∧ hiL T = hiL S:=by
 have hm:∀ f,f ∈ T ↔ f ∈ S:=fun f=>(hT.mem_iff f).trans (hS.mem_iff f).symm
 refine ⟨?_,loL_eq hT.ne hS.ne hm,hiL_eq hT.ne hS.ne hm⟩
 refine (List.filter_congr (fun f hf=>?_)).trans (filter_nums hsub hn)
 rw [Bool.eq_iff_iff,List.contains_iff_mem,List.contains_iff_mem,num_mem hn (fun g hg=>(hT.sub g hg).mem h0) hf,num_mem hn (fun g hg=>(hS.sub g hg).mem h0) hf]
 exact hm f
def growC (l:List FileV):Nat → List FileV → List FileV
 | 0,up=>up
 | n + 1,up=>if up.length < (over l (loL up) (hiL up)).length then growC l n (over l (loL up) (hiL up)) else up
structure Way (l:List FileV) (x0:FileV) (S:List FileV):Prop where
 first:x0 ∈ S
 sub:∀ f ∈ S,Cl l x0 f
 part:S.Sublist l
 own:∀ f ∈ S,touchB (loL S) (hiL S) f = true
theorem Way.ne {l S:List FileV} {x0:FileV} (h:Way l x0 S):S ≠ []:=fun e=>by have:=h.first;rw [e] at this;cases this
theorem Way.incl {l S:List FileV} {x0:FileV} (h:Way l x0 S):S.Sublist (over l (loL S) (hiL S)):=by
 have:=h.part.filter (touchB (loL S) (hiL S))
 rwa [List.filter_eq_self.2 h.own] at this
theorem Way.next {l S:List FileV} {x0:FileV} (hl:∀ f ∈ l,leB f.least f.most = true) (h:Way l x0 S):Way l x0 (over l (loL S) (hiL S)):=by
 obtain ⟨a1,a,ha,a2⟩:=loL_spec h.ne
 obtain ⟨b1,b,hb,b2⟩:=hiL_spec h.ne
 have h1:x0 ∈ over l (loL S) (hiL S):=h.incl.subset h.first
 have ne:over l (loL S) (hiL S) ≠ []:=fun e=>by rw [e] at h1;cases h1
 refine ⟨h1,fun f hf=>?_,List.filter_sublist,fun f hf=>?_⟩
 ·obtain ⟨f1,f2⟩:=List.mem_filter.1 hf
  rw [a2,b2] at f2
  exact .step (h.sub a ha) (h.sub b hb) f1 f2
 ·obtain ⟨f1,f2⟩:=List.mem_filter.1 hf
  unfold touchB
  rw [Bool.and_eq_true]
  exact ⟨leB_trans (hl f f1) ((hiL_spec ne).1 f hf),leB_trans ((loL_spec ne).1 f hf) (hl f f1)⟩
theorem Way.one {l:List FileV} {x0:FileV} (hl:∀ f ∈ l,leB f.least f.most = true) (h0:x0 ∈ l):Way l x0 [x0]:=by
 refine ⟨List.mem_singleton_self _,fun f hf=>?_,List.singleton_sublist.2 h0,fun f hf=>?_⟩
 ·rw [List.mem_singleton.1 hf];exact .base
 ·rw [List.mem_singleton.1 hf]
  have ne : [x0] ≠ []:=by simp
  unfold touchB
  rw [Bool.and_eq_true]
  exact ⟨leB_trans (hl x0 h0) ((hiL_spec ne).1 x0 (List.mem_singleton_self _)),leB_trans ((loL_spec ne).1 x0 (List.mem_singleton_self _)) (hl x0 h0)⟩
theorem Way.stop {l S:List FileV} {x0:FileV} (h:Way l x0 S) (hlen:¬ S.length < (over l (loL S) (hiL S)).length):Shut l x0 S:=by
 have e:S = over l (loL S) (hiL S):=h.incl.eq_of_length_le (by omega)
 refine ⟨h.first,h.sub,fun f hf ht=>?_⟩
 rw [e]
 exact List.mem_filter.2 ⟨hf,ht⟩
theorem growC_shut {l:List FileV} {x0:FileV} (hl:∀ f ∈ l,leB f.least f.most = true):∀ (n:Nat) (S:List FileV),Way l x0 S → l.length ≤ S.length + n → Shut l x0 (growC l n S) ∧ Way l x0 (growC l n S)
 | 0,S,h,hn=>⟨h.stop (by have:(over l (loL S) (hiL S)).length ≤ l.length:=List.length_filter_le _ _;omega),h⟩
 | n + 1,S,h,hn=>by
  unfold growC
  split
  ·next hlt=>exact growC_shut hl n _ (h.next hl) (by omega)
  ·next hlt=>exact ⟨h.stop hlt,h⟩
end Go.Proofs.YteilnbnnhocciaaDoor.V

/-! KV53 -/
namespace Go.Proofs.YteilnbnnhocciaaDoor.KV
open Go.RowKit Go.Proofs.YteilnbnnhocciaaDoorW.PrintWords Go.Proofs.YteilnbnnhocciaaDoorW.PrintLast Go.Proofs.YteilnbnnhocciaaDoorW.PrintMore Go.Proofs.YteilnbnnhocciaaDoorM
attribute [local go_sem] max2_int min2_int max_two min_two max_three min_three max_four min_four
def bourselaw12_Light.l0:Nat → List (S107) → Int → Int → Int → Int → Int → List (S107) → List (S111) → Option (Bool)
 | 0,_,_,_,_,_,_,_,_=>none
 | k + 1,x6,x7,x8,x201000,x201001,x201002,x201003,x201004=>if x8 < x7 then (if 0 ≤ x8 then (if x8 < (x6.length:Int) then (if (((rd_T107 x6 x8).f1.f3).size:Int) > 300 then (some false) else (if (((rd_T107 x6 x8).f1.f4).size:Int) > 300 then (some false) else (bourselaw12_Light.l0 k x6 x7 (wrap64 (x8 + 1)) x201000 x201001 x201002 x201003 x201004))) else (none)) else (none)) else (if (x201003.length:Int) ≤ 210 then (some (decide ((x201004.length:Int) ≤ 210))) else (some false))
def bourselaw12_Light.f (k:Nat) (a0_0:Int) (a0_1:Int) (a0_2:Int) (l0_3:List (S107)) (l0_4:List (S111)):Option (Bool):=bourselaw12_Light.l0 k l0_3 (l0_3.length:Int) 0 a0_0 a0_1 a0_2 l0_3 l0_4
set_option maxHeartbeats 8000000 in
set_option maxRecDepth 100000 in
theorem bourselaw12_Light.calls (k:Nat) (a0_0:Int) (a0_1:Int) (a0_2:Int) (A0_3:Option Addr) (c0_3:Nat) (l0_3:List (S107)) (A0_4:Option Addr) (c0_4:Nat) (l0_4:List (S111)) (r:Bool) (w:World) (hr0_3:Kd.C k107 w A0_3 l0_3.length l0_3) (hc0_3:l0_3.length ≤ c0_3) (hr0_4:Kd.C k111 w A0_4 l0_4.length l0_4) (hc0_4:l0_4.length ≤ c0_4) (h:bourselaw12_Light.f k a0_0 a0_1 a0_2 l0_3 l0_4 = some r) :
  Calls Tryd.prog 14 #[.agg #[.int .u64 a0_0,.int .u64 a0_1,.int .u64 a0_2,.slice A0_3 l0_3.length c0_3,.slice A0_4 l0_4.length c0_4]] w fun e w'=>e = .returned (.bool r) ∧ Below w.heap.size w w':=by
 have hu26:=Tryd.underlying26
 have hu107:=Tryd.underlying107
 have HR0_3:=Aside0.mk hr0_3
 have HC0_3:=Aside0.mk hc0_3
 clear hr0_3 hc0_3
 have HR0_4:=Aside0.mk hr0_4
 have HC0_4:=Aside0.mk hc0_4
 clear hr0_4 hc0_4
 have HB:=Aside0.mk (Below.refl w.heap.size w)
 have H:(bourselaw12_Light.l0 k l0_3 (l0_3.length:Int) 0 a0_0 a0_1 a0_2 l0_3 l0_4) = some r:=h
 clear h
 have H':=Aside0.mk H
 clear H
 go_enter Tryd.func14,Tryd.ntmps14
 go_wp2_with (first | ((with_reducible refine gate_dst (N:=1) rfl ?_);(try (refine gate_guard (by rfl) ?_;dsimp only));refine box_event ?hg (N:=1) ?hd (cs:=#[.int .u64 a0_0,.int .u64 a0_1,.int .u64 a0_2,.slice A0_3 l0_3.length c0_3,.slice A0_4 l0_4.length c0_4]) (t:=26) ?hr ?_;(case hd=>rfl);(case hg=>rfl);(case hr=>first | (go_simp;done) | (go_simp;rfl));intro gb200 hg w2 hbox hb;have n0_:=Aside0.mk (below_step (by repeat (first | (with_reducible first | exact HB.out | apply below_alloc | apply pw_below_drewN | apply below_drew1) | exact HB.out)) hb);have n1_:=Aside0.mk (hbox);have n2_:=Aside0.mk ((by rw [hg];exact (below_size (by repeat (first | (with_reducible first | exact HB.out | apply below_alloc | apply pw_below_drewN | apply below_drew1) | exact HB.out))):w.heap.size ≤ gb200));have n3_:=Aside0.mk ((by rw [hg];exact (below_size (by repeat (first | (with_reducible first | exact HB.out | apply below_alloc | apply pw_below_drewN | apply below_drew1) | exact HB.out))):w.heap.size ≤ gb200));clear HB;have HB:=n0_;have BK200:=n1_;have GW200:=n2_;have GE200:=n3_;clear n0_ n1_ n2_ n3_;clear hb hbox hg;have hcz3_0:w2.cell? ⟨gb200,0,none⟩ = some (.int .u64 a0_0):=(blk_cell BK200.out 0).trans rfl;have hcz3_1:w2.cell? ⟨gb200,1,none⟩ = some (.int .u64 a0_1):=(blk_cell BK200.out 1).trans rfl;have hcz3_2:w2.cell? ⟨gb200,2,none⟩ = some (.int .u64 a0_2):=(blk_cell BK200.out 2).trans rfl;have hcz3_3:w2.cell? ⟨gb200,3,none⟩ = some (.slice A0_3 l0_3.length c0_3):=(blk_cell BK200.out 3).trans rfl;have hcz3_4:w2.cell? ⟨gb200,4,none⟩ = some (.slice A0_4 l0_4.length c0_4):=(blk_cell BK200.out 4).trans rfl;have hfz3_0:=blk_frozen BK200.out 0;have hfz3_1:=blk_frozen BK200.out 1;have hfz3_2:=blk_frozen BK200.out 2;have hfz3_3:=blk_frozen BK200.out 3;have hfz3_4:=blk_frozen BK200.out 4))
 go_loopg [8] k (fun kq v8 w'=>∃ (x8_1:Int),v8 = .int .i64 x8_1 ∧ Aside0 (bourselaw12_Light.l0 kq l0_3 (l0_3.length:Int) x8_1 a0_0 a0_1 a0_2 l0_3 l0_4 = some r) ∧ Aside0 (kq ≤ k) ∧ Aside0 (w'.heap[gb200]? = some (.cells #[.int .u64 a0_0,.int .u64 a0_1,.int .u64 a0_2,(.slice A0_3 l0_3.length c0_3),(.slice A0_4 l0_4.length c0_4)] 26 (0,0))) ∧ Aside0 (Below w.heap.size w w'))
 case atStart=>exact ⟨(0),(by first | rfl | (simp;done) | (simp [*];done)),H',⟨Nat.le_refl _⟩,⟨by (with_reducible repeat (first | refine blk_drewN ?_ _ | refine blk_drew ?_ | refine blk_alloc ?_ _));exact BK200.out⟩,⟨by repeat (first | (with_reducible first | exact HB.out | apply below_alloc | apply pw_below_drewN | apply below_drew1 | refine below_set ?_ GE200.out) | exact HB.out)⟩⟩
 case round=>
  clear H'
  try clear c1
  try clear p2
  try clear hcz3_0
  try clear hcz3_1
  try clear hcz3_2
  try clear hcz3_3
  try clear hcz3_4
  try clear hfz3_0
  try clear hfz3_1
  try clear hfz3_2
  try clear hfz3_3
  try clear hfz3_4
  obtain ⟨x8_1,rfl,HA,HK1,BK200,HB⟩:=hrel
  cases gk with
  | zero=>exact absurd HA.out (by simp [bourselaw12_Light.l0])
  | succ k1=>
   have H:=HA.out
   clear HA
   simp only [bourselaw12_Light.l0] at H
   by_cases c4:x8_1 < (l0_3.length:Int)
   ·rw [if_pos c4] at H
    have c4b0:decide (x8_1 < (l0_3.length:Int)) = true:=decide_eq_true c4
    clear c4
    by_cases c5:0 ≤ x8_1
    ·rw [if_pos c5] at H
     have c5b0:decide (0 ≤ x8_1) = true:=decide_eq_true c5
     clear c5
     by_cases c6:x8_1 < (l0_3.length:Int)
     ·rw [if_pos c6] at H
      have c6b0:decide (x8_1 < (l0_3.length:Int)) = true:=decide_eq_true c6
      clear c6
      by_cases c7:(((rd_T107 l0_3 x8_1).f1.f3).size:Int) > 300
      ·rw [if_pos c7] at H
       have c7b0:decide (300 < (((rd_T107 l0_3 x8_1).f1.f3).size:Int)) = true:=decide_eq_true c7
       have c7b1:decide (300 < ((rd_T107 l0_3 x8_1).f1.f3).size) = true:=decide_eq_true (by omega)
       clear c7
       obtain rfl:=Option.some.inj H
       have p201:0 ≤ (x8_1:Int):=of_decide_eq_true (by first | (with_reducible assumption) | assumption)
       have q201:x8_1 < (l0_3.length:Int):=of_decide_eq_true (by first | (with_reducible assumption) | assumption)
       obtain ⟨ad201,e201,hx201_0,hx201_1,hx201_2,hx201_3,hx201_4,hx201_5⟩:=at_T107 HR0_3.out x8_1 p201 q201
       cases e201
       replace hx201_0:=(HB.out.cell (World.block_lt_of_cell? w _ hx201_0)).trans hx201_0
       replace hx201_1:=(HB.out.cell (World.block_lt_of_cell? w _ hx201_1)).trans hx201_1
       replace hx201_2:=(HB.out.cell (World.block_lt_of_cell? w _ hx201_2)).trans hx201_2
       replace hx201_3:=(HB.out.cell (World.block_lt_of_cell? w _ hx201_3)).trans hx201_3
       replace hx201_4:=(HB.out.cell (World.block_lt_of_cell? w _ hx201_4)).trans hx201_4
       replace hx201_5:=(HB.out.cell (World.block_lt_of_cell? w _ hx201_5)).trans hx201_5
       replace p201:=eq_true p201
       replace q201:=eq_true q201
       go_wp2_with (first | ((with_reducible refine gate_dst (N:=4) rfl ?_);(try (refine gate_guard (by rfl) ?_;dsimp only));refine box_event ?hg (N:=4) ?hd (cs:=#[.int .i64 0,.int .u64 0,.int .u64 0,.int .u64 0,.string (⟨#[]⟩:ByteArray),.string (⟨#[]⟩:ByteArray)]) (t:=107) ?hr ?_;(case hd=>rfl);(case hg=>rfl);(case hr=>first | (go_simp;done) | (go_simp;rfl));intro gb202 hg w8 hbox hb;have n0_:=Aside0.mk (blk_below (g:=gb200) (o:=.cells #[.int .u64 a0_0,.int .u64 a0_1,.int .u64 a0_2,.slice (some ad201) l0_3.length c0_3,.slice A0_4 l0_4.length c0_4] 26 (0,0)) (by (with_reducible repeat (first | refine blk_drewN ?_ _ | refine blk_drew ?_ | refine blk_alloc ?_ _));exact BK200.out) hb);have n1_:=Aside0.mk (below_step (by repeat (first | (with_reducible first | exact HB.out | apply below_alloc | apply pw_below_drewN | apply below_drew1 | refine below_set ?_ GE200.out) | exact HB.out)) hb);have n2_:=Aside0.mk (hbox);have n3_:=Aside0.mk ((by rw [hg];exact (below_size (by repeat (first | (with_reducible first | exact HB.out | apply below_alloc | apply pw_below_drewN | apply below_drew1 | refine below_set ?_ GE200.out) | exact HB.out))):w.heap.size ≤ gb202));have n4_:=Aside0.mk ((by rw [hg];exact (below_size (by repeat (first | (with_reducible first | exact HB.out | apply below_alloc | apply pw_below_drewN | apply below_drew1 | refine below_set ?_ GE200.out) | exact HB.out))):w.heap.size ≤ gb202));have n5_:=Aside0.mk ((by rw [hg];exact Nat.ne_of_lt (blk_lt (g:=gb200) (o:=.cells #[.int .u64 a0_0,.int .u64 a0_1,.int .u64 a0_2,.slice (some ad201) l0_3.length c0_3,.slice A0_4 l0_4.length c0_4] 26 (0,0)) (by (with_reducible repeat (first | refine blk_drewN ?_ _ | refine blk_drew ?_ | refine blk_alloc ?_ _));exact BK200.out)):gb200 ≠ gb202));have n6_:=Aside0.mk ((by rw [hg];exact Nat.ne_of_gt (blk_lt (g:=gb200) (o:=.cells #[.int .u64 a0_0,.int .u64 a0_1,.int .u64 a0_2,.slice (some ad201) l0_3.length c0_3,.slice A0_4 l0_4.length c0_4] 26 (0,0)) (by (with_reducible repeat (first | refine blk_drewN ?_ _ | refine blk_drew ?_ | refine blk_alloc ?_ _));exact BK200.out)):gb202 ≠ gb200));clear BK200;clear HB;have BK200:=n0_;have HB:=n1_;have BK202:=n2_;have GW202:=n3_;have GE202:=n4_;have NB200_202:=n5_;have NB202_200:=n6_;clear n0_ n1_ n2_ n3_ n4_ n5_ n6_;clear hb hbox hg;have hnb9:=NB202_200.out;have hnc9:=NB200_202.out;have hcz10_0:w8.cell? ⟨gb202,0,none⟩ = some (.int .i64 0):=(blk_cell BK202.out 0).trans rfl;have hcz10_1:w8.cell? ⟨gb202,1,none⟩ = some (.int .u64 0):=(blk_cell BK202.out 1).trans rfl;have hcz10_2:w8.cell? ⟨gb202,2,none⟩ = some (.int .u64 0):=(blk_cell BK202.out 2).trans rfl;have hcz10_3:w8.cell? ⟨gb202,3,none⟩ = some (.int .u64 0):=(blk_cell BK202.out 3).trans rfl;have hcz10_4:w8.cell? ⟨gb202,4,none⟩ = some (.string (⟨#[]⟩:ByteArray)):=(blk_cell BK202.out 4).trans rfl;have hcz10_5:w8.cell? ⟨gb202,5,none⟩ = some (.string (⟨#[]⟩:ByteArray)):=(blk_cell BK202.out 5).trans rfl;have hfz10_0:=blk_frozen BK202.out 0;have hfz10_1:=blk_frozen BK202.out 1;have hfz10_2:=blk_frozen BK202.out 2;have hfz10_3:=blk_frozen BK202.out 3;have hfz10_4:=blk_frozen BK202.out 4;have hfz10_5:=blk_frozen BK202.out 5))
       go_ret
       exact ⟨by first | rfl | (simp [errW_none,errW_some] <;> rfl) | (simp [*,errW_none,errW_some] <;> rfl),by repeat (first | (with_reducible first | exact HB.out | apply below_alloc | apply pw_below_drewN | apply below_drew1 | refine below_set ?_ GE200.out | refine below_set ?_ GE202.out) | exact HB.out)⟩
      ·rw [if_neg c7] at H
       have c7b0:decide (300 < (((rd_T107 l0_3 x8_1).f1.f3).size:Int)) = false:=decide_eq_false c7
       have c7b1:decide (300 < ((rd_T107 l0_3 x8_1).f1.f3).size) = false:=decide_eq_false (by omega)
       clear c7
       by_cases c11:(((rd_T107 l0_3 x8_1).f1.f4).size:Int) > 300
       ·rw [if_pos c11] at H
        have c11b0:decide (300 < (((rd_T107 l0_3 x8_1).f1.f4).size:Int)) = true:=decide_eq_true c11
        have c11b1:decide (300 < ((rd_T107 l0_3 x8_1).f1.f4).size) = true:=decide_eq_true (by omega)
        clear c11
        obtain rfl:=Option.some.inj H
        have p201:0 ≤ (x8_1:Int):=of_decide_eq_true (by first | (with_reducible assumption) | assumption)
        have q201:x8_1 < (l0_3.length:Int):=of_decide_eq_true (by first | (with_reducible assumption) | assumption)
        obtain ⟨ad201,e201,hx201_0,hx201_1,hx201_2,hx201_3,hx201_4,hx201_5⟩:=at_T107 HR0_3.out x8_1 p201 q201
        cases e201
        replace hx201_0:=(HB.out.cell (World.block_lt_of_cell? w _ hx201_0)).trans hx201_0
        replace hx201_1:=(HB.out.cell (World.block_lt_of_cell? w _ hx201_1)).trans hx201_1
        replace hx201_2:=(HB.out.cell (World.block_lt_of_cell? w _ hx201_2)).trans hx201_2
        replace hx201_3:=(HB.out.cell (World.block_lt_of_cell? w _ hx201_3)).trans hx201_3
        replace hx201_4:=(HB.out.cell (World.block_lt_of_cell? w _ hx201_4)).trans hx201_4
        replace hx201_5:=(HB.out.cell (World.block_lt_of_cell? w _ hx201_5)).trans hx201_5
        replace p201:=eq_true p201
        replace q201:=eq_true q201
        go_wp2_with (first | ((with_reducible refine gate_dst (N:=4) rfl ?_);(try (refine gate_guard (by rfl) ?_;dsimp only));refine box_event ?hg (N:=4) ?hd (cs:=#[.int .i64 0,.int .u64 0,.int .u64 0,.int .u64 0,.string (⟨#[]⟩:ByteArray),.string (⟨#[]⟩:ByteArray)]) (t:=107) ?hr ?_;(case hd=>rfl);(case hg=>rfl);(case hr=>first | (go_simp;done) | (go_simp;rfl));intro gb202 hg w12 hbox hb;have n0_:=Aside0.mk (blk_below (g:=gb200) (o:=.cells #[.int .u64 a0_0,.int .u64 a0_1,.int .u64 a0_2,.slice (some ad201) l0_3.length c0_3,.slice A0_4 l0_4.length c0_4] 26 (0,0)) (by (with_reducible repeat (first | refine blk_drewN ?_ _ | refine blk_drew ?_ | refine blk_alloc ?_ _));exact BK200.out) hb);have n1_:=Aside0.mk (below_step (by repeat (first | (with_reducible first | exact HB.out | apply below_alloc | apply pw_below_drewN | apply below_drew1 | refine below_set ?_ GE200.out) | exact HB.out)) hb);have n2_:=Aside0.mk (hbox);have n3_:=Aside0.mk ((by rw [hg];exact (below_size (by repeat (first | (with_reducible first | exact HB.out | apply below_alloc | apply pw_below_drewN | apply below_drew1 | refine below_set ?_ GE200.out) | exact HB.out))):w.heap.size ≤ gb202));have n4_:=Aside0.mk ((by rw [hg];exact (below_size (by repeat (first | (with_reducible first | exact HB.out | apply below_alloc | apply pw_below_drewN | apply below_drew1 | refine below_set ?_ GE200.out) | exact HB.out))):w.heap.size ≤ gb202));have n5_:=Aside0.mk ((by rw [hg];exact Nat.ne_of_lt (blk_lt (g:=gb200) (o:=.cells #[.int .u64 a0_0,.int .u64 a0_1,.int .u64 a0_2,.slice (some ad201) l0_3.length c0_3,.slice A0_4 l0_4.length c0_4] 26 (0,0)) (by (with_reducible repeat (first | refine blk_drewN ?_ _ | refine blk_drew ?_ | refine blk_alloc ?_ _));exact BK200.out)):gb200 ≠ gb202));have n6_:=Aside0.mk ((by rw [hg];exact Nat.ne_of_gt (blk_lt (g:=gb200) (o:=.cells #[.int .u64 a0_0,.int .u64 a0_1,.int .u64 a0_2,.slice (some ad201) l0_3.length c0_3,.slice A0_4 l0_4.length c0_4] 26 (0,0)) (by (with_reducible repeat (first | refine blk_drewN ?_ _ | refine blk_drew ?_ | refine blk_alloc ?_ _));exact BK200.out)):gb202 ≠ gb200));clear BK200;clear HB;have BK200:=n0_;have HB:=n1_;have BK202:=n2_;have GW202:=n3_;have GE202:=n4_;have NB200_202:=n5_;have NB202_200:=n6_;clear n0_ n1_ n2_ n3_ n4_ n5_ n6_;clear hb hbox hg;have hnb13:=NB202_200.out;have hnc13:=NB200_202.out;have hcz14_0:w12.cell? ⟨gb202,0,none⟩ = some (.int .i64 0):=(blk_cell BK202.out 0).trans rfl;have hcz14_1:w12.cell? ⟨gb202,1,none⟩ = some (.int .u64 0):=(blk_cell BK202.out 1).trans rfl;have hcz14_2:w12.cell? ⟨gb202,2,none⟩ = some (.int .u64 0):=(blk_cell BK202.out 2).trans rfl;have hcz14_3:w12.cell? ⟨gb202,3,none⟩ = some (.int .u64 0):=(blk_cell BK202.out 3).trans rfl;have hcz14_4:w12.cell? ⟨gb202,4,none⟩ = some (.string (⟨#[]⟩:ByteArray)):=(blk_cell BK202.out 4).trans rfl;have hcz14_5:w12.cell? ⟨gb202,5,none⟩ = some (.string (⟨#[]⟩:ByteArray)):=(blk_cell BK202.out 5).trans rfl;have hfz14_0:=blk_frozen BK202.out 0;have hfz14_1:=blk_frozen BK202.out 1;have hfz14_2:=blk_frozen BK202.out 2;have hfz14_3:=blk_frozen BK202.out 3;have hfz14_4:=blk_frozen BK202.out 4;have hfz14_5:=blk_frozen BK202.out 5))
        go_ret
        exact ⟨by first | rfl | (simp [errW_none,errW_some] <;> rfl) | (simp [*,errW_none,errW_some] <;> rfl),by repeat (first | (with_reducible first | exact HB.out | apply below_alloc | apply pw_below_drewN | apply below_drew1 | refine below_set ?_ GE200.out | refine below_set ?_ GE202.out) | exact HB.out)⟩
       ·rw [if_neg c11] at H
        have c11b0:decide (300 < (((rd_T107 l0_3 x8_1).f1.f4).size:Int)) = false:=decide_eq_false c11
        have c11b1:decide (300 < ((rd_T107 l0_3 x8_1).f1.f4).size) = false:=decide_eq_false (by omega)
        clear c11
        have H':=Aside0.mk H
        clear H
        have p201:0 ≤ (x8_1:Int):=of_decide_eq_true (by first | (with_reducible assumption) | assumption)
        have q201:x8_1 < (l0_3.length:Int):=of_decide_eq_true (by first | (with_reducible assumption) | assumption)
        obtain ⟨ad201,e201,hx201_0,hx201_1,hx201_2,hx201_3,hx201_4,hx201_5⟩:=at_T107 HR0_3.out x8_1 p201 q201
        cases e201
        replace hx201_0:=(HB.out.cell (World.block_lt_of_cell? w _ hx201_0)).trans hx201_0
        replace hx201_1:=(HB.out.cell (World.block_lt_of_cell? w _ hx201_1)).trans hx201_1
        replace hx201_2:=(HB.out.cell (World.block_lt_of_cell? w _ hx201_2)).trans hx201_2
        replace hx201_3:=(HB.out.cell (World.block_lt_of_cell? w _ hx201_3)).trans hx201_3
        replace hx201_4:=(HB.out.cell (World.block_lt_of_cell? w _ hx201_4)).trans hx201_4
        replace hx201_5:=(HB.out.cell (World.block_lt_of_cell? w _ hx201_5)).trans hx201_5
        replace p201:=eq_true p201
        replace q201:=eq_true q201
        go_wp2_with (first | ((with_reducible refine gate_dst (N:=4) rfl ?_);(try (refine gate_guard (by rfl) ?_;dsimp only));refine box_event ?hg (N:=4) ?hd (cs:=#[.int .i64 0,.int .u64 0,.int .u64 0,.int .u64 0,.string (⟨#[]⟩:ByteArray),.string (⟨#[]⟩:ByteArray)]) (t:=107) ?hr ?_;(case hd=>rfl);(case hg=>rfl);(case hr=>first | (go_simp;done) | (go_simp;rfl));intro gb202 hg w15 hbox hb;have n0_:=Aside0.mk (blk_below (g:=gb200) (o:=.cells #[.int .u64 a0_0,.int .u64 a0_1,.int .u64 a0_2,.slice (some ad201) l0_3.length c0_3,.slice A0_4 l0_4.length c0_4] 26 (0,0)) (by (with_reducible repeat (first | refine blk_drewN ?_ _ | refine blk_drew ?_ | refine blk_alloc ?_ _));exact BK200.out) hb);have n1_:=Aside0.mk (below_step (by repeat (first | (with_reducible first | exact HB.out | apply below_alloc | apply pw_below_drewN | apply below_drew1 | refine below_set ?_ GE200.out) | exact HB.out)) hb);have n2_:=Aside0.mk (hbox);have n3_:=Aside0.mk ((by rw [hg];exact (below_size (by repeat (first | (with_reducible first | exact HB.out | apply below_alloc | apply pw_below_drewN | apply below_drew1 | refine below_set ?_ GE200.out) | exact HB.out))):w.heap.size ≤ gb202));have n4_:=Aside0.mk ((by rw [hg];exact (below_size (by repeat (first | (with_reducible first | exact HB.out | apply below_alloc | apply pw_below_drewN | apply below_drew1 | refine below_set ?_ GE200.out) | exact HB.out))):w.heap.size ≤ gb202));have n5_:=Aside0.mk ((by rw [hg];exact Nat.ne_of_lt (blk_lt (g:=gb200) (o:=.cells #[.int .u64 a0_0,.int .u64 a0_1,.int .u64 a0_2,.slice (some ad201) l0_3.length c0_3,.slice A0_4 l0_4.length c0_4] 26 (0,0)) (by (with_reducible repeat (first | refine blk_drewN ?_ _ | refine blk_drew ?_ | refine blk_alloc ?_ _));exact BK200.out)):gb200 ≠ gb202));have n6_:=Aside0.mk ((by rw [hg];exact Nat.ne_of_gt (blk_lt (g:=gb200) (o:=.cells #[.int .u64 a0_0,.int .u64 a0_1,.int .u64 a0_2,.slice (some ad201) l0_3.length c0_3,.slice A0_4 l0_4.length c0_4] 26 (0,0)) (by (with_reducible repeat (first | refine blk_drewN ?_ _ | refine blk_drew ?_ | refine blk_alloc ?_ _));exact BK200.out)):gb202 ≠ gb200));clear BK200;clear HB;have BK200:=n0_;have HB:=n1_;have BK202:=n2_;have GW202:=n3_;have GE202:=n4_;have NB200_202:=n5_;have NB202_200:=n6_;clear n0_ n1_ n2_ n3_ n4_ n5_ n6_;clear hb hbox hg;have hnb16:=NB202_200.out;have hnc16:=NB200_202.out;have hcz17_0:w15.cell? ⟨gb202,0,none⟩ = some (.int .i64 0):=(blk_cell BK202.out 0).trans rfl;have hcz17_1:w15.cell? ⟨gb202,1,none⟩ = some (.int .u64 0):=(blk_cell BK202.out 1).trans rfl;have hcz17_2:w15.cell? ⟨gb202,2,none⟩ = some (.int .u64 0):=(blk_cell BK202.out 2).trans rfl;have hcz17_3:w15.cell? ⟨gb202,3,none⟩ = some (.int .u64 0):=(blk_cell BK202.out 3).trans rfl;have hcz17_4:w15.cell? ⟨gb202,4,none⟩ = some (.string (⟨#[]⟩:ByteArray)):=(blk_cell BK202.out 4).trans rfl;have hcz17_5:w15.cell? ⟨gb202,5,none⟩ = some (.string (⟨#[]⟩:ByteArray)):=(blk_cell BK202.out 5).trans rfl;have hfz17_0:=blk_frozen BK202.out 0;have hfz17_1:=blk_frozen BK202.out 1;have hfz17_2:=blk_frozen BK202.out 2;have hfz17_3:=blk_frozen BK202.out 3;have hfz17_4:=blk_frozen BK202.out 4;have hfz17_5:=blk_frozen BK202.out 5))
        go_roundg k1
        case measure=>have:=HK1.out;omega
        case rel=>exact ⟨(wrap64 (x8_1 + 1)),(by first | rfl | (simp;done) | (simp [*];done)),H',⟨by have:=HK1.out;omega⟩,⟨by (with_reducible repeat (first | refine blk_drewN ?_ _ | refine blk_drew ?_ | refine blk_alloc ?_ _));refine blk_far ?_ NB200_202.out _;(with_reducible repeat (first | refine blk_drewN ?_ _ | refine blk_drew ?_ | refine blk_alloc ?_ _));refine blk_far ?_ NB200_202.out _;(with_reducible repeat (first | refine blk_drewN ?_ _ | refine blk_drew ?_ | refine blk_alloc ?_ _));refine blk_far ?_ NB200_202.out _;(with_reducible repeat (first | refine blk_drewN ?_ _ | refine blk_drew ?_ | refine blk_alloc ?_ _));refine blk_far ?_ NB200_202.out _;(with_reducible repeat (first | refine blk_drewN ?_ _ | refine blk_drew ?_ | refine blk_alloc ?_ _));refine blk_far ?_ NB200_202.out _;(with_reducible repeat (first | refine blk_drewN ?_ _ | refine blk_drew ?_ | refine blk_alloc ?_ _));refine blk_far ?_ NB200_202.out _;(with_reducible repeat (first | refine blk_drewN ?_ _ | refine blk_drew ?_ | refine blk_alloc ?_ _));exact BK200.out⟩,⟨by repeat (first | (with_reducible first | exact HB.out | apply below_alloc | apply pw_below_drewN | apply below_drew1 | refine below_set ?_ GE200.out | refine below_set ?_ GE202.out) | exact HB.out)⟩⟩
     ·rw [if_neg c6] at H
      exact absurd H (by simp)
    ·rw [if_neg c5] at H
     exact absurd H (by simp)
   ·rw [if_neg c4] at H
    have c4b0:decide (x8_1 < (l0_3.length:Int)) = false:=decide_eq_false c4
    clear c4
    by_cases c18:(l0_3.length:Int) ≤ 210
    ·rw [if_pos c18] at H
     have c18b0:decide ((l0_3.length:Int) ≤ 210) = true:=decide_eq_true c18
     have c18b1:decide (l0_3.length ≤ 210) = true:=decide_eq_true (by omega)
     clear c18
     obtain rfl:=Option.some.inj H
     have hcz19_0:wr.cell? ⟨gb200,0,none⟩ = some (.int .u64 a0_0):=(blk_cell BK200.out 0).trans rfl
     have hcz19_1:wr.cell? ⟨gb200,1,none⟩ = some (.int .u64 a0_1):=(blk_cell BK200.out 1).trans rfl
     have hcz19_2:wr.cell? ⟨gb200,2,none⟩ = some (.int .u64 a0_2):=(blk_cell BK200.out 2).trans rfl
     have hcz19_3:wr.cell? ⟨gb200,3,none⟩ = some (.slice A0_3 l0_3.length c0_3):=(blk_cell BK200.out 3).trans rfl
     have hcz19_4:wr.cell? ⟨gb200,4,none⟩ = some (.slice A0_4 l0_4.length c0_4):=(blk_cell BK200.out 4).trans rfl
     have hfz19_0:=blk_frozen BK200.out 0
     have hfz19_1:=blk_frozen BK200.out 1
     have hfz19_2:=blk_frozen BK200.out 2
     have hfz19_3:=blk_frozen BK200.out 3
     have hfz19_4:=blk_frozen BK200.out 4
     go_wp2
     go_ret
     exact ⟨by first | rfl | (simp [errW_none,errW_some] <;> rfl) | (simp [*,errW_none,errW_some] <;> rfl),by repeat (first | (with_reducible first | exact HB.out | apply below_alloc | apply pw_below_drewN | apply below_drew1 | refine below_set ?_ GE200.out) | exact HB.out)⟩
    ·rw [if_neg c18] at H
     have c18b0:decide ((l0_3.length:Int) ≤ 210) = false:=decide_eq_false c18
     have c18b1:decide (l0_3.length ≤ 210) = false:=decide_eq_false (by omega)
     clear c18
     obtain rfl:=Option.some.inj H
     have hcz20_0:wr.cell? ⟨gb200,0,none⟩ = some (.int .u64 a0_0):=(blk_cell BK200.out 0).trans rfl
     have hcz20_1:wr.cell? ⟨gb200,1,none⟩ = some (.int .u64 a0_1):=(blk_cell BK200.out 1).trans rfl
     have hcz20_2:wr.cell? ⟨gb200,2,none⟩ = some (.int .u64 a0_2):=(blk_cell BK200.out 2).trans rfl
     have hcz20_3:wr.cell? ⟨gb200,3,none⟩ = some (.slice A0_3 l0_3.length c0_3):=(blk_cell BK200.out 3).trans rfl
     have hcz20_4:wr.cell? ⟨gb200,4,none⟩ = some (.slice A0_4 l0_4.length c0_4):=(blk_cell BK200.out 4).trans rfl
     have hfz20_0:=blk_frozen BK200.out 0
     have hfz20_1:=blk_frozen BK200.out 1
     have hfz20_2:=blk_frozen BK200.out 2
     have hfz20_3:=blk_frozen BK200.out 3
     have hfz20_4:=blk_frozen BK200.out 4
     go_wp2
     go_ret
     exact ⟨by first | rfl | (simp [errW_none,errW_some] <;> rfl) | (simp [*,errW_none,errW_some] <;> rfl),by repeat (first | (with_reducible first | exact HB.out | apply below_alloc | apply pw_below_drewN | apply below_drew1 | refine below_set ?_ GE200.out) | exact HB.out)⟩
end Go.Proofs.YteilnbnnhocciaaDoor.KV

/-! KV54 -/
namespace Go.Proofs.YteilnbnnhocciaaDoor.KV
open Go.RowKit Go.Proofs.YteilnbnnhocciaaDoorW.PrintWords Go.Proofs.YteilnbnnhocciaaDoorW.PrintLast Go.Proofs.YteilnbnnhocciaaDoorW.PrintMore Go.Proofs.YteilnbnnhocciaaDoorM
attribute [local go_sem] max2_int min2_int max_two min_two max_three min_three max_four min_four
def bourselaw13_light.l0:Nat → List (S26) → List (S26) → Int → Int → Option (Bool)
 | 0,_,_,_,_=>none
 | k + 1,x0,x5,x6,x7=>if x7 < x6 then (if 0 ≤ x7 then (if x7 < (x5.length:Int) then (if (x0.length:Int) > 30 then (some false) else ((bourselaw12_Light.f k ((rd_T26 x5 x7).f0) ((rd_T26 x5 x7).f1) ((rd_T26 x5 x7).f2) ((rd_T26 x5 x7).f3) ((rd_T26 x5 x7).f4)).bind fun t205=>(if t205 = true then (if (((rd_T26 x5 x7).f3).length:Int) > 60 then (some false) else (if (((rd_T26 x5 x7).f4).length:Int) > 60 then (some false) else (bourselaw13_light.l0 k x0 x5 x6 (wrap64 (x7 + 1))))) else (some false)))) else (none)) else (none)) else (some true)
def bourselaw13_light.f (k:Nat) (l0:List (S26)):Option (Bool):=bourselaw13_light.l0 k l0 l0 (l0.length:Int) 0
set_option maxHeartbeats 8000000 in
set_option maxRecDepth 100000 in
theorem bourselaw13_light.calls (k:Nat) (A0:Option Addr) (c0:Nat) (l0:List (S26)) (r:Bool) (w:World) (hr0:Kd.C k26 w A0 l0.length l0) (hc0:l0.length ≤ c0) (h:bourselaw13_light.f k l0 = some r) :
  Calls Tryd.prog 38 #[.slice A0 l0.length c0] w fun e w'=>e = .returned (.bool r) ∧ Below w.heap.size w w':=by
 have hu26:=Tryd.underlying26
 have HR0:=Aside0.mk hr0
 have HC0:=Aside0.mk hc0
 clear hr0 hc0
 have HB:=Aside0.mk (Below.refl w.heap.size w)
 have H:(bourselaw13_light.l0 k l0 l0 (l0.length:Int) 0) = some r:=h
 clear h
 have H':=Aside0.mk H
 clear H
 go_enter Tryd.func38,Tryd.ntmps38
 go_wp2
 go_loopg [7] k (fun kq v7 w'=>∃ (x7_1:Int),v7 = .int .i64 x7_1 ∧ Aside0 (bourselaw13_light.l0 kq l0 l0 (l0.length:Int) x7_1 = some r) ∧ Aside0 (kq ≤ k) ∧ Aside0 (Below w.heap.size w w'))
 case atStart=>exact ⟨(0),(by first | rfl | (simp;done) | (simp [*];done)),H',⟨Nat.le_refl _⟩,⟨by repeat (first | (with_reducible first | exact HB.out | apply below_alloc | apply pw_below_drewN | apply below_drew1) | exact HB.out)⟩⟩
 case round=>
  clear H'
  obtain ⟨x7_1,rfl,HA,HK1,HB⟩:=hrel
  cases gk with
  | zero=>exact absurd HA.out (by simp [bourselaw13_light.l0])
  | succ k1=>
   have H:=HA.out
   clear HA
   simp only [bourselaw13_light.l0] at H
   by_cases c2:x7_1 < (l0.length:Int)
   ·rw [if_pos c2] at H
    have c2b0:decide (x7_1 < (l0.length:Int)) = true:=decide_eq_true c2
    clear c2
    by_cases c3:0 ≤ x7_1
    ·rw [if_pos c3] at H
     have c3b0:decide (0 ≤ x7_1) = true:=decide_eq_true c3
     clear c3
     by_cases c4:x7_1 < (l0.length:Int)
     ·rw [if_pos c4] at H
      have c4b0:decide (x7_1 < (l0.length:Int)) = true:=decide_eq_true c4
      clear c4
      by_cases c5:(l0.length:Int) > 30
      ·rw [if_pos c5] at H
       have c5b0:decide (30 < (l0.length:Int)) = true:=decide_eq_true c5
       have c5b1:decide (30 < l0.length) = true:=decide_eq_true (by omega)
       clear c5
       obtain rfl:=Option.some.inj H
       have p203:0 ≤ (x7_1:Int):=of_decide_eq_true (by first | (with_reducible assumption) | assumption)
       have q203:x7_1 < (l0.length:Int):=of_decide_eq_true (by first | (with_reducible assumption) | assumption)
       obtain ⟨ad203,A203_3,c203_3,A203_4,c203_4,e203,hx203_0,hx203_1,hx203_2,hx203_3,hx203_4,hl203_3,hi203_3,hl203_4,hi203_4⟩:=at_T26 HR0.out x7_1 p203 q203
       cases e203
       replace hx203_0:=(HB.out.cell (World.block_lt_of_cell? w _ hx203_0)).trans hx203_0
       replace hx203_1:=(HB.out.cell (World.block_lt_of_cell? w _ hx203_1)).trans hx203_1
       replace hx203_2:=(HB.out.cell (World.block_lt_of_cell? w _ hx203_2)).trans hx203_2
       replace hx203_3:=(HB.out.cell (World.block_lt_of_cell? w _ hx203_3)).trans hx203_3
       replace hx203_4:=(HB.out.cell (World.block_lt_of_cell? w _ hx203_4)).trans hx203_4
       have HR203_3:=Aside0.mk hi203_3
       have HC203_3:=Aside0.mk hl203_3
       clear hi203_3 hl203_3
       have HR203_4:=Aside0.mk hi203_4
       have HC203_4:=Aside0.mk hl203_4
       clear hi203_4 hl203_4
       replace p203:=eq_true p203
       replace q203:=eq_true q203
       go_wp2_with (first | ((with_reducible refine gate_dst (N:=4) rfl ?_);(try (refine gate_guard (by rfl) ?_;dsimp only));refine box_event ?hg (N:=4) ?hd (cs:=#[.int .u64 0,.int .u64 0,.int .u64 0,.slice none 0 0,.slice none 0 0]) (t:=26) ?hr ?_;(case hd=>rfl);(case hg=>rfl);(case hr=>first | (go_simp;done) | (go_simp;rfl));intro gb204 hg w6 hbox hb;have n0_:=Aside0.mk (below_step (by repeat (first | (with_reducible first | exact HB.out | apply below_alloc | apply pw_below_drewN | apply below_drew1) | exact HB.out)) hb);have n1_:=Aside0.mk (hbox);have n2_:=Aside0.mk ((by rw [hg];exact (below_size (by repeat (first | (with_reducible first | exact HB.out | apply below_alloc | apply pw_below_drewN | apply below_drew1) | exact HB.out))):w.heap.size ≤ gb204));have n3_:=Aside0.mk ((by rw [hg];exact (below_size (by repeat (first | (with_reducible first | exact HB.out | apply below_alloc | apply pw_below_drewN | apply below_drew1) | exact HB.out))):w.heap.size ≤ gb204));clear HB;have HB:=n0_;have BK204:=n1_;have GW204:=n2_;have GE204:=n3_;clear n0_ n1_ n2_ n3_;clear hb hbox hg;have hcz7_0:w6.cell? ⟨gb204,0,none⟩ = some (.int .u64 0):=(blk_cell BK204.out 0).trans rfl;have hcz7_1:w6.cell? ⟨gb204,1,none⟩ = some (.int .u64 0):=(blk_cell BK204.out 1).trans rfl;have hcz7_2:w6.cell? ⟨gb204,2,none⟩ = some (.int .u64 0):=(blk_cell BK204.out 2).trans rfl;have hcz7_3:w6.cell? ⟨gb204,3,none⟩ = some (.slice none 0 0):=(blk_cell BK204.out 3).trans rfl;have hcz7_4:w6.cell? ⟨gb204,4,none⟩ = some (.slice none 0 0):=(blk_cell BK204.out 4).trans rfl;have hfz7_0:=blk_frozen BK204.out 0;have hfz7_1:=blk_frozen BK204.out 1;have hfz7_2:=blk_frozen BK204.out 2;have hfz7_3:=blk_frozen BK204.out 3;have hfz7_4:=blk_frozen BK204.out 4))
       go_ret
       exact ⟨by first | rfl | (simp [errW_none,errW_some] <;> rfl) | (simp [*,errW_none,errW_some] <;> rfl),by repeat (first | (with_reducible first | exact HB.out | apply below_alloc | apply pw_below_drewN | apply below_drew1 | refine below_set ?_ GE204.out) | exact HB.out)⟩
      ·rw [if_neg c5] at H
       have c5b0:decide (30 < (l0.length:Int)) = false:=decide_eq_false c5
       have c5b1:decide (30 < l0.length) = false:=decide_eq_false (by omega)
       clear c5
       replace H:=Option.bind_eq_some_iff.mp H
       obtain ⟨t205,A80,H⟩:=H
       replace H:(if t205 = true then (if (((rd_T26 l0 x7_1).f3).length:Int) > 60 then (some false) else (if (((rd_T26 l0 x7_1).f4).length:Int) > 60 then (some false) else (bourselaw13_light.l0 k1 l0 l0 (l0.length:Int) (wrap64 (x7_1 + 1))))) else (some false)) = some r:=H
       have A8:=Aside0.mk A80
       clear A80
       by_cases c9:t205 = true
       ·subst c9
        have H1:(if (((rd_T26 l0 x7_1).f3).length:Int) > 60 then (some false) else (if (((rd_T26 l0 x7_1).f4).length:Int) > 60 then (some false) else (bourselaw13_light.l0 k1 l0 l0 (l0.length:Int) (wrap64 (x7_1 + 1))))) = some r:=by rw [if_pos rfl] at H;exact H
        clear H
        have H:=H1
        clear H1
        by_cases c10:(((rd_T26 l0 x7_1).f3).length:Int) > 60
        ·rw [if_pos c10] at H
         have c10b0:decide (60 < (((rd_T26 l0 x7_1).f3).length:Int)) = true:=decide_eq_true c10
         have c10b1:decide (60 < ((rd_T26 l0 x7_1).f3).length) = true:=decide_eq_true (by omega)
         clear c10
         obtain rfl:=Option.some.inj H
         have p203:0 ≤ (x7_1:Int):=of_decide_eq_true (by first | (with_reducible assumption) | assumption)
         have q203:x7_1 < (l0.length:Int):=of_decide_eq_true (by first | (with_reducible assumption) | assumption)
         obtain ⟨ad203,A203_3,c203_3,A203_4,c203_4,e203,hx203_0,hx203_1,hx203_2,hx203_3,hx203_4,hl203_3,hi203_3,hl203_4,hi203_4⟩:=at_T26 HR0.out x7_1 p203 q203
         cases e203
         replace hx203_0:=(HB.out.cell (World.block_lt_of_cell? w _ hx203_0)).trans hx203_0
         replace hx203_1:=(HB.out.cell (World.block_lt_of_cell? w _ hx203_1)).trans hx203_1
         replace hx203_2:=(HB.out.cell (World.block_lt_of_cell? w _ hx203_2)).trans hx203_2
         replace hx203_3:=(HB.out.cell (World.block_lt_of_cell? w _ hx203_3)).trans hx203_3
         replace hx203_4:=(HB.out.cell (World.block_lt_of_cell? w _ hx203_4)).trans hx203_4
         have HR203_3:=Aside0.mk hi203_3
         have HC203_3:=Aside0.mk hl203_3
         clear hi203_3 hl203_3
         have HR203_4:=Aside0.mk hi203_4
         have HC203_4:=Aside0.mk hl203_4
         clear hi203_4 hl203_4
         replace p203:=eq_true p203
         replace q203:=eq_true q203
         go_wp2_with (first | ((with_reducible refine gate_dst (N:=4) rfl ?_);(try (refine gate_guard (by rfl) ?_;dsimp only));refine box_event ?hg (N:=4) ?hd (cs:=#[.int .u64 0,.int .u64 0,.int .u64 0,.slice none 0 0,.slice none 0 0]) (t:=26) ?hr ?_;(case hd=>rfl);(case hg=>rfl);(case hr=>first | (go_simp;done) | (go_simp;rfl));intro gb204 hg w11 hbox hb;have n0_:=Aside0.mk (below_step (by repeat (first | (with_reducible first | exact HB.out | apply below_alloc | apply pw_below_drewN | apply below_drew1) | exact HB.out)) hb);have n1_:=Aside0.mk (hbox);have n2_:=Aside0.mk ((by rw [hg];exact (below_size (by repeat (first | (with_reducible first | exact HB.out | apply below_alloc | apply pw_below_drewN | apply below_drew1) | exact HB.out))):w.heap.size ≤ gb204));have n3_:=Aside0.mk ((by rw [hg];exact (below_size (by repeat (first | (with_reducible first | exact HB.out | apply below_alloc | apply pw_below_drewN | apply below_drew1) | exact HB.out))):w.heap.size ≤ gb204));clear HB;have HB:=n0_;have BK204:=n1_;have GW204:=n2_;have GE204:=n3_;clear n0_ n1_ n2_ n3_;clear hb hbox hg;have hcz12_0:w11.cell? ⟨gb204,0,none⟩ = some (.int .u64 0):=(blk_cell BK204.out 0).trans rfl;have hcz12_1:w11.cell? ⟨gb204,1,none⟩ = some (.int .u64 0):=(blk_cell BK204.out 1).trans rfl;have hcz12_2:w11.cell? ⟨gb204,2,none⟩ = some (.int .u64 0):=(blk_cell BK204.out 2).trans rfl;have hcz12_3:w11.cell? ⟨gb204,3,none⟩ = some (.slice none 0 0):=(blk_cell BK204.out 3).trans rfl;have hcz12_4:w11.cell? ⟨gb204,4,none⟩ = some (.slice none 0 0):=(blk_cell BK204.out 4).trans rfl;have hfz12_0:=blk_frozen BK204.out 0;have hfz12_1:=blk_frozen BK204.out 1;have hfz12_2:=blk_frozen BK204.out 2;have hfz12_3:=blk_frozen BK204.out 3;have hfz12_4:=blk_frozen BK204.out 4) | (go_at_call 14;(with_reducible refine (bourselaw12_Light.calls k1 ((rd_T26 l0 x7_1).f0) ((rd_T26 l0 x7_1).f1) ((rd_T26 l0 x7_1).f2) _ _ ((rd_T26 l0 x7_1).f3) _ _ ((rd_T26 l0 x7_1).f4) true _ ?side1 ?side2 ?side3 ?side4 A8.out).mono ?_);(case side1=>exact Kd.C_below HR203_3.out (by repeat (first | (with_reducible first | exact HB.out | apply below_alloc | apply pw_below_drewN | apply below_drew1 | refine below_set ?_ GE204.out) | exact HB.out)));(case side2=>exact HC203_3.out);(case side3=>exact Kd.C_below HR203_4.out (by repeat (first | (with_reducible first | exact HB.out | apply below_alloc | apply pw_below_drewN | apply below_drew1 | refine below_set ?_ GE204.out) | exact HB.out)));(case side4=>exact HC203_4.out);rintro e w13 ⟨rfl,hb⟩;have n0_:=Aside0.mk (blk_below (g:=gb204) (o:=.cells #[.int .u64 ((rd_T26 l0 x7_1).f0),.int .u64 ((rd_T26 l0 x7_1).f1),.int .u64 ((rd_T26 l0 x7_1).f2),.slice A203_3 ((rd_T26 l0 x7_1).f3).length c203_3,.slice A203_4 ((rd_T26 l0 x7_1).f4).length c203_4] 26 (0,0)) (by (with_reducible repeat (first | refine blk_drewN ?_ _ | refine blk_drew ?_ | refine blk_alloc ?_ _));refine blk_put (cs:=#[.int .u64 ((rd_T26 l0 x7_1).f0),.int .u64 ((rd_T26 l0 x7_1).f1),.int .u64 ((rd_T26 l0 x7_1).f2),.slice A203_3 ((rd_T26 l0 x7_1).f3).length c203_3,.slice none 0 0]) ?_ 4 _ rfl;(with_reducible repeat (first | refine blk_drewN ?_ _ | refine blk_drew ?_ | refine blk_alloc ?_ _));refine blk_put (cs:=#[.int .u64 ((rd_T26 l0 x7_1).f0),.int .u64 ((rd_T26 l0 x7_1).f1),.int .u64 ((rd_T26 l0 x7_1).f2),.slice none 0 0,.slice none 0 0]) ?_ 3 _ rfl;(with_reducible repeat (first | refine blk_drewN ?_ _ | refine blk_drew ?_ | refine blk_alloc ?_ _));refine blk_put (cs:=#[.int .u64 ((rd_T26 l0 x7_1).f0),.int .u64 ((rd_T26 l0 x7_1).f1),.int .u64 0,.slice none 0 0,.slice none 0 0]) ?_ 2 _ rfl;(with_reducible repeat (first | refine blk_drewN ?_ _ | refine blk_drew ?_ | refine blk_alloc ?_ _));refine blk_put (cs:=#[.int .u64 ((rd_T26 l0 x7_1).f0),.int .u64 0,.int .u64 0,.slice none 0 0,.slice none 0 0]) ?_ 1 _ rfl;(with_reducible repeat (first | refine blk_drewN ?_ _ | refine blk_drew ?_ | refine blk_alloc ?_ _));refine blk_put (cs:=#[.int .u64 0,.int .u64 0,.int .u64 0,.slice none 0 0,.slice none 0 0]) ?_ 0 _ rfl;(with_reducible repeat (first | refine blk_drewN ?_ _ | refine blk_drew ?_ | refine blk_alloc ?_ _));exact BK204.out) hb);have n1_:=Aside0.mk (below_step (by repeat (first | (with_reducible first | exact HB.out | apply below_alloc | apply pw_below_drewN | apply below_drew1 | refine below_set ?_ GE204.out) | exact HB.out)) hb);clear BK204;clear HB;have BK204:=n0_;have HB:=n1_;clear n0_ n1_;(try clear hb);(try clear hb2);(try clear hk);(try clear hi);have hcz14_0:w13.cell? ⟨gb204,0,none⟩ = some (.int .u64 ((rd_T26 l0 x7_1).f0)):=(blk_cell BK204.out 0).trans rfl;have hcz14_1:w13.cell? ⟨gb204,1,none⟩ = some (.int .u64 ((rd_T26 l0 x7_1).f1)):=(blk_cell BK204.out 1).trans rfl;have hcz14_2:w13.cell? ⟨gb204,2,none⟩ = some (.int .u64 ((rd_T26 l0 x7_1).f2)):=(blk_cell BK204.out 2).trans rfl;have hcz14_3:w13.cell? ⟨gb204,3,none⟩ = some (.slice A203_3 ((rd_T26 l0 x7_1).f3).length c203_3):=(blk_cell BK204.out 3).trans rfl;have hcz14_4:w13.cell? ⟨gb204,4,none⟩ = some (.slice A203_4 ((rd_T26 l0 x7_1).f4).length c203_4):=(blk_cell BK204.out 4).trans rfl;have hfz14_0:=blk_frozen BK204.out 0;have hfz14_1:=blk_frozen BK204.out 1;have hfz14_2:=blk_frozen BK204.out 2;have hfz14_3:=blk_frozen BK204.out 3;have hfz14_4:=blk_frozen BK204.out 4))
         go_ret
         exact ⟨by first | rfl | (simp [errW_none,errW_some] <;> rfl) | (simp [*,errW_none,errW_some] <;> rfl),by repeat (first | (with_reducible first | exact HB.out | apply below_alloc | apply pw_below_drewN | apply below_drew1 | refine below_set ?_ GE204.out) | exact HB.out)⟩
        ·rw [if_neg c10] at H
         have c10b0:decide (60 < (((rd_T26 l0 x7_1).f3).length:Int)) = false:=decide_eq_false c10
         have c10b1:decide (60 < ((rd_T26 l0 x7_1).f3).length) = false:=decide_eq_false (by omega)
         clear c10
         by_cases c15:(((rd_T26 l0 x7_1).f4).length:Int) > 60
         ·rw [if_pos c15] at H
          have c15b0:decide (60 < (((rd_T26 l0 x7_1).f4).length:Int)) = true:=decide_eq_true c15
          have c15b1:decide (60 < ((rd_T26 l0 x7_1).f4).length) = true:=decide_eq_true (by omega)
          clear c15
          obtain rfl:=Option.some.inj H
          have p203:0 ≤ (x7_1:Int):=of_decide_eq_true (by first | (with_reducible assumption) | assumption)
          have q203:x7_1 < (l0.length:Int):=of_decide_eq_true (by first | (with_reducible assumption) | assumption)
          obtain ⟨ad203,A203_3,c203_3,A203_4,c203_4,e203,hx203_0,hx203_1,hx203_2,hx203_3,hx203_4,hl203_3,hi203_3,hl203_4,hi203_4⟩:=at_T26 HR0.out x7_1 p203 q203
          cases e203
          replace hx203_0:=(HB.out.cell (World.block_lt_of_cell? w _ hx203_0)).trans hx203_0
          replace hx203_1:=(HB.out.cell (World.block_lt_of_cell? w _ hx203_1)).trans hx203_1
          replace hx203_2:=(HB.out.cell (World.block_lt_of_cell? w _ hx203_2)).trans hx203_2
          replace hx203_3:=(HB.out.cell (World.block_lt_of_cell? w _ hx203_3)).trans hx203_3
          replace hx203_4:=(HB.out.cell (World.block_lt_of_cell? w _ hx203_4)).trans hx203_4
          have HR203_3:=Aside0.mk hi203_3
          have HC203_3:=Aside0.mk hl203_3
          clear hi203_3 hl203_3
          have HR203_4:=Aside0.mk hi203_4
          have HC203_4:=Aside0.mk hl203_4
          clear hi203_4 hl203_4
          replace p203:=eq_true p203
          replace q203:=eq_true q203
          go_wp2_with (first | ((with_reducible refine gate_dst (N:=4) rfl ?_);(try (refine gate_guard (by rfl) ?_;dsimp only));refine box_event ?hg (N:=4) ?hd (cs:=#[.int .u64 0,.int .u64 0,.int .u64 0,.slice none 0 0,.slice none 0 0]) (t:=26) ?hr ?_;(case hd=>rfl);(case hg=>rfl);(case hr=>first | (go_simp;done) | (go_simp;rfl));intro gb204 hg w16 hbox hb;have n0_:=Aside0.mk (below_step (by repeat (first | (with_reducible first | exact HB.out | apply below_alloc | apply pw_below_drewN | apply below_drew1) | exact HB.out)) hb);have n1_:=Aside0.mk (hbox);have n2_:=Aside0.mk ((by rw [hg];exact (below_size (by repeat (first | (with_reducible first | exact HB.out | apply below_alloc | apply pw_below_drewN | apply below_drew1) | exact HB.out))):w.heap.size ≤ gb204));have n3_:=Aside0.mk ((by rw [hg];exact (below_size (by repeat (first | (with_reducible first | exact HB.out | apply below_alloc | apply pw_below_drewN | apply below_drew1) | exact HB.out))):w.heap.size ≤ gb204));clear HB;have HB:=n0_;have BK204:=n1_;have GW204:=n2_;have GE204:=n3_;clear n0_ n1_ n2_ n3_;clear hb hbox hg;have hcz17_0:w16.cell? ⟨gb204,0,none⟩ = some (.int .u64 0):=(blk_cell BK204.out 0).trans rfl;have hcz17_1:w16.cell? ⟨gb204,1,none⟩ = some (.int .u64 0):=(blk_cell BK204.out 1).trans rfl;have hcz17_2:w16.cell? ⟨gb204,2,none⟩ = some (.int .u64 0):=(blk_cell BK204.out 2).trans rfl;have hcz17_3:w16.cell? ⟨gb204,3,none⟩ = some (.slice none 0 0):=(blk_cell BK204.out 3).trans rfl;have hcz17_4:w16.cell? ⟨gb204,4,none⟩ = some (.slice none 0 0):=(blk_cell BK204.out 4).trans rfl;have hfz17_0:=blk_frozen BK204.out 0;have hfz17_1:=blk_frozen BK204.out 1;have hfz17_2:=blk_frozen BK204.out 2;have hfz17_3:=blk_frozen BK204.out 3;have hfz17_4:=blk_frozen BK204.out 4) | (go_at_call 14;(with_reducible refine (bourselaw12_Light.calls k1 ((rd_T26 l0 x7_1).f0) ((rd_T26 l0 x7_1).f1) ((rd_T26 l0 x7_1).f2) _ _ ((rd_T26 l0 x7_1).f3) _ _ ((rd_T26 l0 x7_1).f4) true _ ?side1 ?side2 ?side3 ?side4 A8.out).mono ?_);(case side1=>exact Kd.C_below HR203_3.out (by repeat (first | (with_reducible first | exact HB.out | apply below_alloc | apply pw_below_drewN | apply below_drew1 | refine below_set ?_ GE204.out) | exact HB.out)));(case side2=>exact HC203_3.out);(case side3=>exact Kd.C_below HR203_4.out (by repeat (first | (with_reducible first | exact HB.out | apply below_alloc | apply pw_below_drewN | apply below_drew1 | refine below_set ?_ GE204.out) | exact HB.out)));(case side4=>exact HC203_4.out);rintro e w18 ⟨rfl,hb⟩;have n0_:=Aside0.mk (blk_below (g:=gb204) (o:=.cells #[.int .u64 ((rd_T26 l0 x7_1).f0),.int .u64 ((rd_T26 l0 x7_1).f1),.int .u64 ((rd_T26 l0 x7_1).f2),.slice A203_3 ((rd_T26 l0 x7_1).f3).length c203_3,.slice A203_4 ((rd_T26 l0 x7_1).f4).length c203_4] 26 (0,0)) (by (with_reducible repeat (first | refine blk_drewN ?_ _ | refine blk_drew ?_ | refine blk_alloc ?_ _));refine blk_put (cs:=#[.int .u64 ((rd_T26 l0 x7_1).f0),.int .u64 ((rd_T26 l0 x7_1).f1),.int .u64 ((rd_T26 l0 x7_1).f2),.slice A203_3 ((rd_T26 l0 x7_1).f3).length c203_3,.slice none 0 0]) ?_ 4 _ rfl;(with_reducible repeat (first | refine blk_drewN ?_ _ | refine blk_drew ?_ | refine blk_alloc ?_ _));refine blk_put (cs:=#[.int .u64 ((rd_T26 l0 x7_1).f0),.int .u64 ((rd_T26 l0 x7_1).f1),.int .u64 ((rd_T26 l0 x7_1).f2),.slice none 0 0,.slice none 0 0]) ?_ 3 _ rfl;(with_reducible repeat (first | refine blk_drewN ?_ _ | refine blk_drew ?_ | refine blk_alloc ?_ _));refine blk_put (cs:=#[.int .u64 ((rd_T26 l0 x7_1).f0),.int .u64 ((rd_T26 l0 x7_1).f1),.int .u64 0,.slice none 0 0,.slice none 0 0]) ?_ 2 _ rfl;(with_reducible repeat (first | refine blk_drewN ?_ _ | refine blk_drew ?_ | refine blk_alloc ?_ _));refine blk_put (cs:=#[.int .u64 ((rd_T26 l0 x7_1).f0),.int .u64 0,.int .u64 0,.slice none 0 0,.slice none 0 0]) ?_ 1 _ rfl;(with_reducible repeat (first | refine blk_drewN ?_ _ | refine blk_drew ?_ | refine blk_alloc ?_ _));refine blk_put (cs:=#[.int .u64 0,.int .u64 0,.int .u64 0,.slice none 0 0,.slice none 0 0]) ?_ 0 _ rfl;(with_reducible repeat (first | refine blk_drewN ?_ _ | refine blk_drew ?_ | refine blk_alloc ?_ _));exact BK204.out) hb);have n1_:=Aside0.mk (below_step (by repeat (first | (with_reducible first | exact HB.out | apply below_alloc | apply pw_below_drewN | apply below_drew1 | refine below_set ?_ GE204.out) | exact HB.out)) hb);clear BK204;clear HB;have BK204:=n0_;have HB:=n1_;clear n0_ n1_;(try clear hb);(try clear hb2);(try clear hk);(try clear hi);have hcz19_0:w18.cell? ⟨gb204,0,none⟩ = some (.int .u64 ((rd_T26 l0 x7_1).f0)):=(blk_cell BK204.out 0).trans rfl;have hcz19_1:w18.cell? ⟨gb204,1,none⟩ = some (.int .u64 ((rd_T26 l0 x7_1).f1)):=(blk_cell BK204.out 1).trans rfl;have hcz19_2:w18.cell? ⟨gb204,2,none⟩ = some (.int .u64 ((rd_T26 l0 x7_1).f2)):=(blk_cell BK204.out 2).trans rfl;have hcz19_3:w18.cell? ⟨gb204,3,none⟩ = some (.slice A203_3 ((rd_T26 l0 x7_1).f3).length c203_3):=(blk_cell BK204.out 3).trans rfl;have hcz19_4:w18.cell? ⟨gb204,4,none⟩ = some (.slice A203_4 ((rd_T26 l0 x7_1).f4).length c203_4):=(blk_cell BK204.out 4).trans rfl;have hfz19_0:=blk_frozen BK204.out 0;have hfz19_1:=blk_frozen BK204.out 1;have hfz19_2:=blk_frozen BK204.out 2;have hfz19_3:=blk_frozen BK204.out 3;have hfz19_4:=blk_frozen BK204.out 4))
          go_ret
          exact ⟨by first | rfl | (simp [errW_none,errW_some] <;> rfl) | (simp [*,errW_none,errW_some] <;> rfl),by repeat (first | (with_reducible first | exact HB.out | apply below_alloc | apply pw_below_drewN | apply below_drew1 | refine below_set ?_ GE204.out) | exact HB.out)⟩
         ·rw [if_neg c15] at H
          have c15b0:decide (60 < (((rd_T26 l0 x7_1).f4).length:Int)) = false:=decide_eq_false c15
          have c15b1:decide (60 < ((rd_T26 l0 x7_1).f4).length) = false:=decide_eq_false (by omega)
          clear c15
          have H':=Aside0.mk H
          clear H
          have p203:0 ≤ (x7_1:Int):=of_decide_eq_true (by first | (with_reducible assumption) | assumption)
          have q203:x7_1 < (l0.length:Int):=of_decide_eq_true (by first | (with_reducible assumption) | assumption)
          obtain ⟨ad203,A203_3,c203_3,A203_4,c203_4,e203,hx203_0,hx203_1,hx203_2,hx203_3,hx203_4,hl203_3,hi203_3,hl203_4,hi203_4⟩:=at_T26 HR0.out x7_1 p203 q203
          cases e203
          replace hx203_0:=(HB.out.cell (World.block_lt_of_cell? w _ hx203_0)).trans hx203_0
          replace hx203_1:=(HB.out.cell (World.block_lt_of_cell? w _ hx203_1)).trans hx203_1
          replace hx203_2:=(HB.out.cell (World.block_lt_of_cell? w _ hx203_2)).trans hx203_2
          replace hx203_3:=(HB.out.cell (World.block_lt_of_cell? w _ hx203_3)).trans hx203_3
          replace hx203_4:=(HB.out.cell (World.block_lt_of_cell? w _ hx203_4)).trans hx203_4
          have HR203_3:=Aside0.mk hi203_3
          have HC203_3:=Aside0.mk hl203_3
          clear hi203_3 hl203_3
          have HR203_4:=Aside0.mk hi203_4
          have HC203_4:=Aside0.mk hl203_4
          clear hi203_4 hl203_4
          replace p203:=eq_true p203
          replace q203:=eq_true q203
          go_wp2_with (first | ((with_reducible refine gate_dst (N:=4) rfl ?_);(try (refine gate_guard (by rfl) ?_;dsimp only));refine box_event ?hg (N:=4) ?hd (cs:=#[.int .u64 0,.int .u64 0,.int .u64 0,.slice none 0 0,.slice none 0 0]) (t:=26) ?hr ?_;(case hd=>rfl);(case hg=>rfl);(case hr=>first | (go_simp;done) | (go_simp;rfl));intro gb204 hg w20 hbox hb;have n0_:=Aside0.mk (below_step (by repeat (first | (with_reducible first | exact HB.out | apply below_alloc | apply pw_below_drewN | apply below_drew1) | exact HB.out)) hb);have n1_:=Aside0.mk (hbox);have n2_:=Aside0.mk ((by rw [hg];exact (below_size (by repeat (first | (with_reducible first | exact HB.out | apply below_alloc | apply pw_below_drewN | apply below_drew1) | exact HB.out))):w.heap.size ≤ gb204));have n3_:=Aside0.mk ((by rw [hg];exact (below_size (by repeat (first | (with_reducible first | exact HB.out | apply below_alloc | apply pw_below_drewN | apply below_drew1) | exact HB.out))):w.heap.size ≤ gb204));clear HB;have HB:=n0_;have BK204:=n1_;have GW204:=n2_;have GE204:=n3_;clear n0_ n1_ n2_ n3_;clear hb hbox hg;have hcz21_0:w20.cell? ⟨gb204,0,none⟩ = some (.int .u64 0):=(blk_cell BK204.out 0).trans rfl;have hcz21_1:w20.cell? ⟨gb204,1,none⟩ = some (.int .u64 0):=(blk_cell BK204.out 1).trans rfl;have hcz21_2:w20.cell? ⟨gb204,2,none⟩ = some (.int .u64 0):=(blk_cell BK204.out 2).trans rfl;have hcz21_3:w20.cell? ⟨gb204,3,none⟩ = some (.slice none 0 0):=(blk_cell BK204.out 3).trans rfl;have hcz21_4:w20.cell? ⟨gb204,4,none⟩ = some (.slice none 0 0):=(blk_cell BK204.out 4).trans rfl;have hfz21_0:=blk_frozen BK204.out 0;have hfz21_1:=blk_frozen BK204.out 1;have hfz21_2:=blk_frozen BK204.out 2;have hfz21_3:=blk_frozen BK204.out 3;have hfz21_4:=blk_frozen BK204.out 4) | (go_at_call 14;(with_reducible refine (bourselaw12_Light.calls k1 ((rd_T26 l0 x7_1).f0) ((rd_T26 l0 x7_1).f1) ((rd_T26 l0 x7_1).f2) _ _ ((rd_T26 l0 x7_1).f3) _ _ ((rd_T26 l0 x7_1).f4) true _ ?side1 ?side2 ?side3 ?side4 A8.out).mono ?_);(case side1=>exact Kd.C_below HR203_3.out (by repeat (first | (with_reducible first | exact HB.out | apply below_alloc | apply pw_below_drewN | apply below_drew1 | refine below_set ?_ GE204.out) | exact HB.out)));(case side2=>exact HC203_3.out);(case side3=>exact Kd.C_below HR203_4.out (by repeat (first | (with_reducible first | exact HB.out | apply below_alloc | apply pw_below_drewN | apply below_drew1 | refine below_set ?_ GE204.out) | exact HB.out)));(case side4=>exact HC203_4.out);rintro e w22 ⟨rfl,hb⟩;have n0_:=Aside0.mk (blk_below (g:=gb204) (o:=.cells #[.int .u64 ((rd_T26 l0 x7_1).f0),.int .u64 ((rd_T26 l0 x7_1).f1),.int .u64 ((rd_T26 l0 x7_1).f2),.slice A203_3 ((rd_T26 l0 x7_1).f3).length c203_3,.slice A203_4 ((rd_T26 l0 x7_1).f4).length c203_4] 26 (0,0)) (by (with_reducible repeat (first | refine blk_drewN ?_ _ | refine blk_drew ?_ | refine blk_alloc ?_ _));refine blk_put (cs:=#[.int .u64 ((rd_T26 l0 x7_1).f0),.int .u64 ((rd_T26 l0 x7_1).f1),.int .u64 ((rd_T26 l0 x7_1).f2),.slice A203_3 ((rd_T26 l0 x7_1).f3).length c203_3,.slice none 0 0]) ?_ 4 _ rfl;(with_reducible repeat (first | refine blk_drewN ?_ _ | refine blk_drew ?_ | refine blk_alloc ?_ _));refine blk_put (cs:=#[.int .u64 ((rd_T26 l0 x7_1).f0),.int .u64 ((rd_T26 l0 x7_1).f1),.int .u64 ((rd_T26 l0 x7_1).f2),.slice none 0 0,.slice none 0 0]) ?_ 3 _ rfl;(with_reducible repeat (first | refine blk_drewN ?_ _ | refine blk_drew ?_ | refine blk_alloc ?_ _));refine blk_put (cs:=#[.int .u64 ((rd_T26 l0 x7_1).f0),.int .u64 ((rd_T26 l0 x7_1).f1),.int .u64 0,.slice none 0 0,.slice none 0 0]) ?_ 2 _ rfl;(with_reducible repeat (first | refine blk_drewN ?_ _ | refine blk_drew ?_ | refine blk_alloc ?_ _));refine blk_put (cs:=#[.int .u64 ((rd_T26 l0 x7_1).f0),.int .u64 0,.int .u64 0,.slice none 0 0,.slice none 0 0]) ?_ 1 _ rfl;(with_reducible repeat (first | refine blk_drewN ?_ _ | refine blk_drew ?_ | refine blk_alloc ?_ _));refine blk_put (cs:=#[.int .u64 0,.int .u64 0,.int .u64 0,.slice none 0 0,.slice none 0 0]) ?_ 0 _ rfl;(with_reducible repeat (first | refine blk_drewN ?_ _ | refine blk_drew ?_ | refine blk_alloc ?_ _));exact BK204.out) hb);have n1_:=Aside0.mk (below_step (by repeat (first | (with_reducible first | exact HB.out | apply below_alloc | apply pw_below_drewN | apply below_drew1 | refine below_set ?_ GE204.out) | exact HB.out)) hb);clear BK204;clear HB;have BK204:=n0_;have HB:=n1_;clear n0_ n1_;(try clear hb);(try clear hb2);(try clear hk);(try clear hi);have hcz23_0:w22.cell? ⟨gb204,0,none⟩ = some (.int .u64 ((rd_T26 l0 x7_1).f0)):=(blk_cell BK204.out 0).trans rfl;have hcz23_1:w22.cell? ⟨gb204,1,none⟩ = some (.int .u64 ((rd_T26 l0 x7_1).f1)):=(blk_cell BK204.out 1).trans rfl;have hcz23_2:w22.cell? ⟨gb204,2,none⟩ = some (.int .u64 ((rd_T26 l0 x7_1).f2)):=(blk_cell BK204.out 2).trans rfl;have hcz23_3:w22.cell? ⟨gb204,3,none⟩ = some (.slice A203_3 ((rd_T26 l0 x7_1).f3).length c203_3):=(blk_cell BK204.out 3).trans rfl;have hcz23_4:w22.cell? ⟨gb204,4,none⟩ = some (.slice A203_4 ((rd_T26 l0 x7_1).f4).length c203_4):=(blk_cell BK204.out 4).trans rfl;have hfz23_0:=blk_frozen BK204.out 0;have hfz23_1:=blk_frozen BK204.out 1;have hfz23_2:=blk_frozen BK204.out 2;have hfz23_3:=blk_frozen BK204.out 3;have hfz23_4:=blk_frozen BK204.out 4))
          go_roundg k1
          case measure=>have:=HK1.out;omega
          case rel=>exact ⟨(wrap64 (x7_1 + 1)),(by first | rfl | (simp;done) | (simp [*];done)),H',⟨by have:=HK1.out;omega⟩,⟨by repeat (first | (with_reducible first | exact HB.out | apply below_alloc | apply pw_below_drewN | apply below_drew1 | refine below_set ?_ GE204.out) | exact HB.out)⟩⟩
       ·replace c9:=Bool.eq_false_iff.mpr c9
        subst c9
        have H1:(some false) = some r:=by rw [if_neg (show ¬ (false = true) by decide)] at H;exact H
        clear H
        have H:=H1
        clear H1
        obtain rfl:=Option.some.inj H
        have p203:0 ≤ (x7_1:Int):=of_decide_eq_true (by first | (with_reducible assumption) | assumption)
        have q203:x7_1 < (l0.length:Int):=of_decide_eq_true (by first | (with_reducible assumption) | assumption)
        obtain ⟨ad203,A203_3,c203_3,A203_4,c203_4,e203,hx203_0,hx203_1,hx203_2,hx203_3,hx203_4,hl203_3,hi203_3,hl203_4,hi203_4⟩:=at_T26 HR0.out x7_1 p203 q203
        cases e203
        replace hx203_0:=(HB.out.cell (World.block_lt_of_cell? w _ hx203_0)).trans hx203_0
        replace hx203_1:=(HB.out.cell (World.block_lt_of_cell? w _ hx203_1)).trans hx203_1
        replace hx203_2:=(HB.out.cell (World.block_lt_of_cell? w _ hx203_2)).trans hx203_2
        replace hx203_3:=(HB.out.cell (World.block_lt_of_cell? w _ hx203_3)).trans hx203_3
        replace hx203_4:=(HB.out.cell (World.block_lt_of_cell? w _ hx203_4)).trans hx203_4
        have HR203_3:=Aside0.mk hi203_3
        have HC203_3:=Aside0.mk hl203_3
        clear hi203_3 hl203_3
        have HR203_4:=Aside0.mk hi203_4
        have HC203_4:=Aside0.mk hl203_4
        clear hi203_4 hl203_4
        replace p203:=eq_true p203
        replace q203:=eq_true q203
        go_wp2_with (first | ((with_reducible refine gate_dst (N:=4) rfl ?_);(try (refine gate_guard (by rfl) ?_;dsimp only));refine box_event ?hg (N:=4) ?hd (cs:=#[.int .u64 0,.int .u64 0,.int .u64 0,.slice none 0 0,.slice none 0 0]) (t:=26) ?hr ?_;(case hd=>rfl);(case hg=>rfl);(case hr=>first | (go_simp;done) | (go_simp;rfl));intro gb204 hg w24 hbox hb;have n0_:=Aside0.mk (below_step (by repeat (first | (with_reducible first | exact HB.out | apply below_alloc | apply pw_below_drewN | apply below_drew1) | exact HB.out)) hb);have n1_:=Aside0.mk (hbox);have n2_:=Aside0.mk ((by rw [hg];exact (below_size (by repeat (first | (with_reducible first | exact HB.out | apply below_alloc | apply pw_below_drewN | apply below_drew1) | exact HB.out))):w.heap.size ≤ gb204));have n3_:=Aside0.mk ((by rw [hg];exact (below_size (by repeat (first | (with_reducible first | exact HB.out | apply below_alloc | apply pw_below_drewN | apply below_drew1) | exact HB.out))):w.heap.size ≤ gb204));clear HB;have HB:=n0_;have BK204:=n1_;have GW204:=n2_;have GE204:=n3_;clear n0_ n1_ n2_ n3_;clear hb hbox hg;have hcz25_0:w24.cell? ⟨gb204,0,none⟩ = some (.int .u64 0):=(blk_cell BK204.out 0).trans rfl;have hcz25_1:w24.cell? ⟨gb204,1,none⟩ = some (.int .u64 0):=(blk_cell BK204.out 1).trans rfl;have hcz25_2:w24.cell? ⟨gb204,2,none⟩ = some (.int .u64 0):=(blk_cell BK204.out 2).trans rfl;have hcz25_3:w24.cell? ⟨gb204,3,none⟩ = some (.slice none 0 0):=(blk_cell BK204.out 3).trans rfl;have hcz25_4:w24.cell? ⟨gb204,4,none⟩ = some (.slice none 0 0):=(blk_cell BK204.out 4).trans rfl;have hfz25_0:=blk_frozen BK204.out 0;have hfz25_1:=blk_frozen BK204.out 1;have hfz25_2:=blk_frozen BK204.out 2;have hfz25_3:=blk_frozen BK204.out 3;have hfz25_4:=blk_frozen BK204.out 4) | (go_at_call 14;(with_reducible refine (bourselaw12_Light.calls k1 ((rd_T26 l0 x7_1).f0) ((rd_T26 l0 x7_1).f1) ((rd_T26 l0 x7_1).f2) _ _ ((rd_T26 l0 x7_1).f3) _ _ ((rd_T26 l0 x7_1).f4) false _ ?side1 ?side2 ?side3 ?side4 A8.out).mono ?_);(case side1=>exact Kd.C_below HR203_3.out (by repeat (first | (with_reducible first | exact HB.out | apply below_alloc | apply pw_below_drewN | apply below_drew1 | refine below_set ?_ GE204.out) | exact HB.out)));(case side2=>exact HC203_3.out);(case side3=>exact Kd.C_below HR203_4.out (by repeat (first | (with_reducible first | exact HB.out | apply below_alloc | apply pw_below_drewN | apply below_drew1 | refine below_set ?_ GE204.out) | exact HB.out)));(case side4=>exact HC203_4.out);rintro e w26 ⟨rfl,hb⟩;have n0_:=Aside0.mk (blk_below (g:=gb204) (o:=.cells #[.int .u64 ((rd_T26 l0 x7_1).f0),.int .u64 ((rd_T26 l0 x7_1).f1),.int .u64 ((rd_T26 l0 x7_1).f2),.slice A203_3 ((rd_T26 l0 x7_1).f3).length c203_3,.slice A203_4 ((rd_T26 l0 x7_1).f4).length c203_4] 26 (0,0)) (by (with_reducible repeat (first | refine blk_drewN ?_ _ | refine blk_drew ?_ | refine blk_alloc ?_ _));refine blk_put (cs:=#[.int .u64 ((rd_T26 l0 x7_1).f0),.int .u64 ((rd_T26 l0 x7_1).f1),.int .u64 ((rd_T26 l0 x7_1).f2),.slice A203_3 ((rd_T26 l0 x7_1).f3).length c203_3,.slice none 0 0]) ?_ 4 _ rfl;(with_reducible repeat (first | refine blk_drewN ?_ _ | refine blk_drew ?_ | refine blk_alloc ?_ _));refine blk_put (cs:=#[.int .u64 ((rd_T26 l0 x7_1).f0),.int .u64 ((rd_T26 l0 x7_1).f1),.int .u64 ((rd_T26 l0 x7_1).f2),.slice none 0 0,.slice none 0 0]) ?_ 3 _ rfl;(with_reducible repeat (first | refine blk_drewN ?_ _ | refine blk_drew ?_ | refine blk_alloc ?_ _));refine blk_put (cs:=#[.int .u64 ((rd_T26 l0 x7_1).f0),.int .u64 ((rd_T26 l0 x7_1).f1),.int .u64 0,.slice none 0 0,.slice none 0 0]) ?_ 2 _ rfl;(with_reducible repeat (first | refine blk_drewN ?_ _ | refine blk_drew ?_ | refine blk_alloc ?_ _));refine blk_put (cs:=#[.int .u64 ((rd_T26 l0 x7_1).f0),.int .u64 0,.int .u64 0,.slice none 0 0,.slice none 0 0]) ?_ 1 _ rfl;(with_reducible repeat (first | refine blk_drewN ?_ _ | refine blk_drew ?_ | refine blk_alloc ?_ _));refine blk_put (cs:=#[.int .u64 0,.int .u64 0,.int .u64 0,.slice none 0 0,.slice none 0 0]) ?_ 0 _ rfl;(with_reducible repeat (first | refine blk_drewN ?_ _ | refine blk_drew ?_ | refine blk_alloc ?_ _));exact BK204.out) hb);have n1_:=Aside0.mk (below_step (by repeat (first | (with_reducible first | exact HB.out | apply below_alloc | apply pw_below_drewN | apply below_drew1 | refine below_set ?_ GE204.out) | exact HB.out)) hb);clear BK204;clear HB;have BK204:=n0_;have HB:=n1_;clear n0_ n1_;(try clear hb);(try clear hb2);(try clear hk);(try clear hi)))
        go_ret
        exact ⟨by first | rfl | (simp [errW_none,errW_some] <;> rfl) | (simp [*,errW_none,errW_some] <;> rfl),by repeat (first | (with_reducible first | exact HB.out | apply below_alloc | apply pw_below_drewN | apply below_drew1 | refine below_set ?_ GE204.out) | exact HB.out)⟩
     ·rw [if_neg c4] at H
      exact absurd H (by simp)
    ·rw [if_neg c3] at H
     exact absurd H (by simp)
   ·rw [if_neg c2] at H
    have c2b0:decide (x7_1 < (l0.length:Int)) = false:=decide_eq_false c2
    clear c2
    obtain rfl:=Option.some.inj H
    go_wp2
    go_ret
    exact ⟨by first | rfl | (simp [errW_none,errW_some] <;> rfl) | (simp [*,errW_none,errW_some] <;> rfl),by repeat (first | (with_reducible first | exact HB.out | apply below_alloc | apply pw_below_drewN | apply below_drew1) | exact HB.out)⟩
end Go.Proofs.YteilnbnnhocciaaDoor.KV

/-! KV50 -/
namespace Go.Proofs.YteilnbnnhocciaaDoor.KV
open Go.RowKit Go.Proofs.YteilnbnnhocciaaDoorW.PrintWords Go.Proofs.YteilnbnnhocciaaDoorW.PrintLast Go.Proofs.YteilnbnnhocciaaDoorW.PrintMore Go.Proofs.YteilnbnnhocciaaDoorM
attribute [local go_sem] max2_int min2_int max_two min_two max_three min_three max_four min_four
attribute [local go_sem] gtr_run leq_run geq_run
def bourseref13_ahead.f (a0:Int) (a1_0:Int) (a1_1:Int) (a1_2:Int) (a1_3:ByteArray) (a1_4:ByteArray) (a2_0:Int) (a2_1:Int) (a2_2:Int) (a2_3:ByteArray) (a2_4:ByteArray):Option (Bool):=if a0 = 0 then (some (decide (a1_0 > a2_0))) else (if (Op.bytesLess a1_3.toList a2_3.toList) = true then (some true) else (if a1_3.toList = a2_3.toList then (some (decide (a1_0 < a2_0))) else (some false)))
set_option maxHeartbeats 8000000 in
set_option maxRecDepth 100000 in
theorem bourseref13_ahead.calls (a0:Int) (a1_0:Int) (a1_1:Int) (a1_2:Int) (a1_3:ByteArray) (a1_4:ByteArray) (a2_0:Int) (a2_1:Int) (a2_2:Int) (a2_3:ByteArray) (a2_4:ByteArray) (r:Bool) (w:World) (h:bourseref13_ahead.f a0 a1_0 a1_1 a1_2 a1_3 a1_4 a2_0 a2_1 a2_2 a2_3 a2_4 = some r) :
  Calls Tryd.prog 98 #[.int .i64 a0,.agg #[.int .u64 a1_0,.int .u64 a1_1,.int .u64 a1_2,.string a1_3,.string a1_4],.agg #[.int .u64 a2_0,.int .u64 a2_1,.int .u64 a2_2,.string a2_3,.string a2_4]] w fun e w'=>e = .returned (.bool r) ∧ Below w.heap.size w w':=by
 have hu112:=Tryd.underlying112
 have HB:=Aside0.mk (Below.refl w.heap.size w)
 have H:(if a0 = 0 then (some (decide (a1_0 > a2_0))) else (if (Op.bytesLess a1_3.toList a2_3.toList) = true then (some true) else (if a1_3.toList = a2_3.toList then (some (decide (a1_0 < a2_0))) else (some false)))) = some r:=h
 clear h
 by_cases c4:a0 = 0
 ·rw [if_pos c4] at H
  have c4b0:(a0 == 0) = true:=beq_iff_eq.mpr c4
  have c4b1:(a0 != 0) = false:=bne_eq_false_iff_eq.mpr c4
  clear c4
  obtain rfl:=Option.some.inj H
  go_enter Tryd.func98,Tryd.ntmps98
  go_wp2_with (first | ((with_reducible refine gate_dst (N:=4) rfl ?_);refine box_event ?hg (N:=4) ?hd (cs:=#[.int .u64 a1_0,.int .u64 a1_1,.int .u64 a1_2,.string a1_3,.string a1_4]) (t:=112) ?hr ?_;(case hd=>rfl);(case hg=>rfl);(case hr=>first | (go_simp;done) | (go_simp;rfl));intro gb198 hg w5 hbox hb;have n0_:=Aside0.mk (below_step (by repeat (first | (with_reducible first | exact HB.out | apply below_alloc | apply pw_below_drewN | apply below_drew1) | exact HB.out)) hb);have n1_:=Aside0.mk (hbox);have n2_:=Aside0.mk ((by rw [hg];exact (below_size (by repeat (first | (with_reducible first | exact HB.out | apply below_alloc | apply pw_below_drewN | apply below_drew1) | exact HB.out))):w.heap.size ≤ gb198));have n3_:=Aside0.mk ((by rw [hg];exact (below_size (by repeat (first | (with_reducible first | exact HB.out | apply below_alloc | apply pw_below_drewN | apply below_drew1) | exact HB.out))):w.heap.size ≤ gb198));clear HB;have HB:=n0_;have BK198:=n1_;have GW198:=n2_;have GE198:=n3_;clear n0_ n1_ n2_ n3_;clear hb hbox hg) | ((with_reducible refine gate_dst (N:=5) rfl ?_);refine box_event ?hg (N:=5) ?hd (cs:=#[.int .u64 a2_0,.int .u64 a2_1,.int .u64 a2_2,.string a2_3,.string a2_4]) (t:=112) ?hr ?_;(case hd=>rfl);(case hg=>rfl);(case hr=>first | (go_simp;done) | (go_simp;rfl));intro gb199 hg w6 hbox hb;have n0_:=Aside0.mk (blk_below (g:=gb198) (o:=.cells #[.int .u64 a1_0,.int .u64 a1_1,.int .u64 a1_2,.string a1_3,.string a1_4] 112 (0,0)) (by (with_reducible repeat (first | refine blk_drewN ?_ _ | refine blk_drew ?_ | refine blk_alloc ?_ _));exact BK198.out) hb);have n1_:=Aside0.mk (below_step (by repeat (first | (with_reducible first | exact HB.out | apply below_alloc | apply pw_below_drewN | apply below_drew1 | refine below_set ?_ GE198.out) | exact HB.out)) hb);have n2_:=Aside0.mk (hbox);have n3_:=Aside0.mk ((by rw [hg];exact (below_size (by repeat (first | (with_reducible first | exact HB.out | apply below_alloc | apply pw_below_drewN | apply below_drew1 | refine below_set ?_ GE198.out) | exact HB.out))):w.heap.size ≤ gb199));have n4_:=Aside0.mk ((by rw [hg];exact (below_size (by repeat (first | (with_reducible first | exact HB.out | apply below_alloc | apply pw_below_drewN | apply below_drew1 | refine below_set ?_ GE198.out) | exact HB.out))):w.heap.size ≤ gb199));have n5_:=Aside0.mk ((by rw [hg];exact Nat.ne_of_lt (blk_lt (g:=gb198) (o:=.cells #[.int .u64 a1_0,.int .u64 a1_1,.int .u64 a1_2,.string a1_3,.string a1_4] 112 (0,0)) (by (with_reducible repeat (first | refine blk_drewN ?_ _ | refine blk_drew ?_ | refine blk_alloc ?_ _));exact BK198.out)):gb198 ≠ gb199));have n6_:=Aside0.mk ((by rw [hg];exact Nat.ne_of_gt (blk_lt (g:=gb198) (o:=.cells #[.int .u64 a1_0,.int .u64 a1_1,.int .u64 a1_2,.string a1_3,.string a1_4] 112 (0,0)) (by (with_reducible repeat (first | refine blk_drewN ?_ _ | refine blk_drew ?_ | refine blk_alloc ?_ _));exact BK198.out)):gb199 ≠ gb198));clear BK198;clear HB;have BK198:=n0_;have HB:=n1_;have BK199:=n2_;have GW199:=n3_;have GE199:=n4_;have NB198_199:=n5_;have NB199_198:=n6_;clear n0_ n1_ n2_ n3_ n4_ n5_ n6_;clear hb hbox hg;have hnb7:=NB198_199.out;have hnc7:=NB199_198.out;have hcz8_0:w6.cell? ⟨gb198,0,none⟩ = some (.int .u64 a1_0):=(blk_cell BK198.out 0).trans rfl;have hcz8_1:w6.cell? ⟨gb198,1,none⟩ = some (.int .u64 a1_1):=(blk_cell BK198.out 1).trans rfl;have hcz8_2:w6.cell? ⟨gb198,2,none⟩ = some (.int .u64 a1_2):=(blk_cell BK198.out 2).trans rfl;have hcz8_3:w6.cell? ⟨gb198,3,none⟩ = some (.string a1_3):=(blk_cell BK198.out 3).trans rfl;have hcz8_4:w6.cell? ⟨gb198,4,none⟩ = some (.string a1_4):=(blk_cell BK198.out 4).trans rfl;have hfz8_0:=blk_frozen BK198.out 0;have hfz8_1:=blk_frozen BK198.out 1;have hfz8_2:=blk_frozen BK198.out 2;have hfz8_3:=blk_frozen BK198.out 3;have hfz8_4:=blk_frozen BK198.out 4;have hcz9_0:w6.cell? ⟨gb199,0,none⟩ = some (.int .u64 a2_0):=(blk_cell BK199.out 0).trans rfl;have hcz9_1:w6.cell? ⟨gb199,1,none⟩ = some (.int .u64 a2_1):=(blk_cell BK199.out 1).trans rfl;have hcz9_2:w6.cell? ⟨gb199,2,none⟩ = some (.int .u64 a2_2):=(blk_cell BK199.out 2).trans rfl;have hcz9_3:w6.cell? ⟨gb199,3,none⟩ = some (.string a2_3):=(blk_cell BK199.out 3).trans rfl;have hcz9_4:w6.cell? ⟨gb199,4,none⟩ = some (.string a2_4):=(blk_cell BK199.out 4).trans rfl;have hfz9_0:=blk_frozen BK199.out 0;have hfz9_1:=blk_frozen BK199.out 1;have hfz9_2:=blk_frozen BK199.out 2;have hfz9_3:=blk_frozen BK199.out 3;have hfz9_4:=blk_frozen BK199.out 4))
  go_ret
  exact ⟨by first | rfl | (simp [errW_none,errW_some] <;> rfl) | (simp [*,errW_none,errW_some] <;> rfl),by repeat (first | (with_reducible first | exact HB.out | apply below_alloc | apply pw_below_drewN | apply below_drew1 | refine below_set ?_ GE198.out | refine below_set ?_ GE199.out) | exact HB.out)⟩
 ·rw [if_neg c4] at H
  have c4b0:(a0 == 0) = false:=beq_eq_false_iff_ne.mpr c4
  have c4b1:(a0 != 0) = true:=bne_iff_ne.mpr c4
  by_cases c10:(Op.bytesLess a1_3.toList a2_3.toList) = true
  ·rw [if_pos c10] at H
   have c10b0:(Op.bytesLess a1_3.toList a2_3.toList) = true:=c10
   clear c10
   obtain rfl:=Option.some.inj H
   go_enter Tryd.func98,Tryd.ntmps98
   go_wp2_with (first | ((with_reducible refine gate_dst (N:=4) rfl ?_);refine box_event ?hg (N:=4) ?hd (cs:=#[.int .u64 a1_0,.int .u64 a1_1,.int .u64 a1_2,.string a1_3,.string a1_4]) (t:=112) ?hr ?_;(case hd=>rfl);(case hg=>rfl);(case hr=>first | (go_simp;done) | (go_simp;rfl));intro gb198 hg w11 hbox hb;have n0_:=Aside0.mk (below_step (by repeat (first | (with_reducible first | exact HB.out | apply below_alloc | apply pw_below_drewN | apply below_drew1) | exact HB.out)) hb);have n1_:=Aside0.mk (hbox);have n2_:=Aside0.mk ((by rw [hg];exact (below_size (by repeat (first | (with_reducible first | exact HB.out | apply below_alloc | apply pw_below_drewN | apply below_drew1) | exact HB.out))):w.heap.size ≤ gb198));have n3_:=Aside0.mk ((by rw [hg];exact (below_size (by repeat (first | (with_reducible first | exact HB.out | apply below_alloc | apply pw_below_drewN | apply below_drew1) | exact HB.out))):w.heap.size ≤ gb198));clear HB;have HB:=n0_;have BK198:=n1_;have GW198:=n2_;have GE198:=n3_;clear n0_ n1_ n2_ n3_;clear hb hbox hg) | ((with_reducible refine gate_dst (N:=5) rfl ?_);refine box_event ?hg (N:=5) ?hd (cs:=#[.int .u64 a2_0,.int .u64 a2_1,.int .u64 a2_2,.string a2_3,.string a2_4]) (t:=112) ?hr ?_;(case hd=>rfl);(case hg=>rfl);(case hr=>first | (go_simp;done) | (go_simp;rfl));intro gb199 hg w12 hbox hb;have n0_:=Aside0.mk (blk_below (g:=gb198) (o:=.cells #[.int .u64 a1_0,.int .u64 a1_1,.int .u64 a1_2,.string a1_3,.string a1_4] 112 (0,0)) (by (with_reducible repeat (first | refine blk_drewN ?_ _ | refine blk_drew ?_ | refine blk_alloc ?_ _));exact BK198.out) hb);have n1_:=Aside0.mk (below_step (by repeat (first | (with_reducible first | exact HB.out | apply below_alloc | apply pw_below_drewN | apply below_drew1 | refine below_set ?_ GE198.out) | exact HB.out)) hb);have n2_:=Aside0.mk (hbox);have n3_:=Aside0.mk ((by rw [hg];exact (below_size (by repeat (first | (with_reducible first | exact HB.out | apply below_alloc | apply pw_below_drewN | apply below_drew1 | refine below_set ?_ GE198.out) | exact HB.out))):w.heap.size ≤ gb199));have n4_:=Aside0.mk ((by rw [hg];exact (below_size (by repeat (first | (with_reducible first | exact HB.out | apply below_alloc | apply pw_below_drewN | apply below_drew1 | refine below_set ?_ GE198.out) | exact HB.out))):w.heap.size ≤ gb199));have n5_:=Aside0.mk ((by rw [hg];exact Nat.ne_of_lt (blk_lt (g:=gb198) (o:=.cells #[.int .u64 a1_0,.int .u64 a1_1,.int .u64 a1_2,.string a1_3,.string a1_4] 112 (0,0)) (by (with_reducible repeat (first | refine blk_drewN ?_ _ | refine blk_drew ?_ | refine blk_alloc ?_ _));exact BK198.out)):gb198 ≠ gb199));have n6_:=Aside0.mk ((by rw [hg];exact Nat.ne_of_gt (blk_lt (g:=gb198) (o:=.cells #[.int .u64 a1_0,.int .u64 a1_1,.int .u64 a1_2,.string a1_3,.string a1_4] 112 (0,0)) (by (with_reducible repeat (first | refine blk_drewN ?_ _ | refine blk_drew ?_ | refine blk_alloc ?_ _));exact BK198.out)):gb199 ≠ gb198));clear BK198;clear HB;have BK198:=n0_;have HB:=n1_;have BK199:=n2_;have GW199:=n3_;have GE199:=n4_;have NB198_199:=n5_;have NB199_198:=n6_;clear n0_ n1_ n2_ n3_ n4_ n5_ n6_;clear hb hbox hg;have hnb13:=NB198_199.out;have hnc13:=NB199_198.out;have hcz14_0:w12.cell? ⟨gb198,0,none⟩ = some (.int .u64 a1_0):=(blk_cell BK198.out 0).trans rfl;have hcz14_1:w12.cell? ⟨gb198,1,none⟩ = some (.int .u64 a1_1):=(blk_cell BK198.out 1).trans rfl;have hcz14_2:w12.cell? ⟨gb198,2,none⟩ = some (.int .u64 a1_2):=(blk_cell BK198.out 2).trans rfl;have hcz14_3:w12.cell? ⟨gb198,3,none⟩ = some (.string a1_3):=(blk_cell BK198.out 3).trans rfl;have hcz14_4:w12.cell? ⟨gb198,4,none⟩ = some (.string a1_4):=(blk_cell BK198.out 4).trans rfl;have hfz14_0:=blk_frozen BK198.out 0;have hfz14_1:=blk_frozen BK198.out 1;have hfz14_2:=blk_frozen BK198.out 2;have hfz14_3:=blk_frozen BK198.out 3;have hfz14_4:=blk_frozen BK198.out 4;have hcz15_0:w12.cell? ⟨gb199,0,none⟩ = some (.int .u64 a2_0):=(blk_cell BK199.out 0).trans rfl;have hcz15_1:w12.cell? ⟨gb199,1,none⟩ = some (.int .u64 a2_1):=(blk_cell BK199.out 1).trans rfl;have hcz15_2:w12.cell? ⟨gb199,2,none⟩ = some (.int .u64 a2_2):=(blk_cell BK199.out 2).trans rfl;have hcz15_3:w12.cell? ⟨gb199,3,none⟩ = some (.string a2_3):=(blk_cell BK199.out 3).trans rfl;have hcz15_4:w12.cell? ⟨gb199,4,none⟩ = some (.string a2_4):=(blk_cell BK199.out 4).trans rfl;have hfz15_0:=blk_frozen BK199.out 0;have hfz15_1:=blk_frozen BK199.out 1;have hfz15_2:=blk_frozen BK199.out 2;have hfz15_3:=blk_frozen BK199.out 3;have hfz15_4:=blk_frozen BK199.out 4))
   go_ret
   exact ⟨by first | rfl | (simp [errW_none,errW_some] <;> rfl) | (simp [*,errW_none,errW_some] <;> rfl),by repeat (first | (with_reducible first | exact HB.out | apply below_alloc | apply pw_below_drewN | apply below_drew1 | refine below_set ?_ GE198.out | refine below_set ?_ GE199.out) | exact HB.out)⟩
  ·rw [if_neg c10] at H
   have c10b0:(Op.bytesLess a1_3.toList a2_3.toList) = false:=by simpa using c10
   clear c10
   by_cases c16:a1_3.toList = a2_3.toList
   ·rw [if_pos c16] at H
    have c16b0:(a1_3.toList == a2_3.toList) = true:=beq_iff_eq.mpr c16
    have c16b1:(a1_3.toList != a2_3.toList) = false:=bne_eq_false_iff_eq.mpr c16
    clear c16
    obtain rfl:=Option.some.inj H
    go_enter Tryd.func98,Tryd.ntmps98
    go_wp2_with (first | ((with_reducible refine gate_dst (N:=4) rfl ?_);refine box_event ?hg (N:=4) ?hd (cs:=#[.int .u64 a1_0,.int .u64 a1_1,.int .u64 a1_2,.string a1_3,.string a1_4]) (t:=112) ?hr ?_;(case hd=>rfl);(case hg=>rfl);(case hr=>first | (go_simp;done) | (go_simp;rfl));intro gb198 hg w17 hbox hb;have n0_:=Aside0.mk (below_step (by repeat (first | (with_reducible first | exact HB.out | apply below_alloc | apply pw_below_drewN | apply below_drew1) | exact HB.out)) hb);have n1_:=Aside0.mk (hbox);have n2_:=Aside0.mk ((by rw [hg];exact (below_size (by repeat (first | (with_reducible first | exact HB.out | apply below_alloc | apply pw_below_drewN | apply below_drew1) | exact HB.out))):w.heap.size ≤ gb198));have n3_:=Aside0.mk ((by rw [hg];exact (below_size (by repeat (first | (with_reducible first | exact HB.out | apply below_alloc | apply pw_below_drewN | apply below_drew1) | exact HB.out))):w.heap.size ≤ gb198));clear HB;have HB:=n0_;have BK198:=n1_;have GW198:=n2_;have GE198:=n3_;clear n0_ n1_ n2_ n3_;clear hb hbox hg) | ((with_reducible refine gate_dst (N:=5) rfl ?_);refine box_event ?hg (N:=5) ?hd (cs:=#[.int .u64 a2_0,.int .u64 a2_1,.int .u64 a2_2,.string a2_3,.string a2_4]) (t:=112) ?hr ?_;(case hd=>rfl);(case hg=>rfl);(case hr=>first | (go_simp;done) | (go_simp;rfl));intro gb199 hg w18 hbox hb;have n0_:=Aside0.mk (blk_below (g:=gb198) (o:=.cells #[.int .u64 a1_0,.int .u64 a1_1,.int .u64 a1_2,.string a1_3,.string a1_4] 112 (0,0)) (by (with_reducible repeat (first | refine blk_drewN ?_ _ | refine blk_drew ?_ | refine blk_alloc ?_ _));exact BK198.out) hb);have n1_:=Aside0.mk (below_step (by repeat (first | (with_reducible first | exact HB.out | apply below_alloc | apply pw_below_drewN | apply below_drew1 | refine below_set ?_ GE198.out) | exact HB.out)) hb);have n2_:=Aside0.mk (hbox);have n3_:=Aside0.mk ((by rw [hg];exact (below_size (by repeat (first | (with_reducible first | exact HB.out | apply below_alloc | apply pw_below_drewN | apply below_drew1 | refine below_set ?_ GE198.out) | exact HB.out))):w.heap.size ≤ gb199));have n4_:=Aside0.mk ((by rw [hg];exact (below_size (by repeat (first | (with_reducible first | exact HB.out | apply below_alloc | apply pw_below_drewN | apply below_drew1 | refine below_set ?_ GE198.out) | exact HB.out))):w.heap.size ≤ gb199));have n5_:=Aside0.mk ((by rw [hg];exact Nat.ne_of_lt (blk_lt (g:=gb198) (o:=.cells #[.int .u64 a1_0,.int .u64 a1_1,.int .u64 a1_2,.string a1_3,.string a1_4] 112 (0,0)) (by (with_reducible repeat (first | refine blk_drewN ?_ _ | refine blk_drew ?_ | refine blk_alloc ?_ _));exact BK198.out)):gb198 ≠ gb199));have n6_:=Aside0.mk ((by rw [hg];exact Nat.ne_of_gt (blk_lt (g:=gb198) (o:=.cells #[.int .u64 a1_0,.int .u64 a1_1,.int .u64 a1_2,.string a1_3,.string a1_4] 112 (0,0)) (by (with_reducible repeat (first | refine blk_drewN ?_ _ | refine blk_drew ?_ | refine blk_alloc ?_ _));exact BK198.out)):gb199 ≠ gb198));clear BK198;clear HB;have BK198:=n0_;have HB:=n1_;have BK199:=n2_;have GW199:=n3_;have GE199:=n4_;have NB198_199:=n5_;have NB199_198:=n6_;clear n0_ n1_ n2_ n3_ n4_ n5_ n6_;clear hb hbox hg;have hnb19:=NB198_199.out;have hnc19:=NB199_198.out;have hcz20_0:w18.cell? ⟨gb198,0,none⟩ = some (.int .u64 a1_0):=(blk_cell BK198.out 0).trans rfl;have hcz20_1:w18.cell? ⟨gb198,1,none⟩ = some (.int .u64 a1_1):=(blk_cell BK198.out 1).trans rfl;have hcz20_2:w18.cell? ⟨gb198,2,none⟩ = some (.int .u64 a1_2):=(blk_cell BK198.out 2).trans rfl;have hcz20_3:w18.cell? ⟨gb198,3,none⟩ = some (.string a1_3):=(blk_cell BK198.out 3).trans rfl;have hcz20_4:w18.cell? ⟨gb198,4,none⟩ = some (.string a1_4):=(blk_cell BK198.out 4).trans rfl;have hfz20_0:=blk_frozen BK198.out 0;have hfz20_1:=blk_frozen BK198.out 1;have hfz20_2:=blk_frozen BK198.out 2;have hfz20_3:=blk_frozen BK198.out 3;have hfz20_4:=blk_frozen BK198.out 4;have hcz21_0:w18.cell? ⟨gb199,0,none⟩ = some (.int .u64 a2_0):=(blk_cell BK199.out 0).trans rfl;have hcz21_1:w18.cell? ⟨gb199,1,none⟩ = some (.int .u64 a2_1):=(blk_cell BK199.out 1).trans rfl;have hcz21_2:w18.cell? ⟨gb199,2,none⟩ = some (.int .u64 a2_2):=(blk_cell BK199.out 2).trans rfl;have hcz21_3:w18.cell? ⟨gb199,3,none⟩ = some (.string a2_3):=(blk_cell BK199.out 3).trans rfl;have hcz21_4:w18.cell? ⟨gb199,4,none⟩ = some (.string a2_4):=(blk_cell BK199.out 4).trans rfl;have hfz21_0:=blk_frozen BK199.out 0;have hfz21_1:=blk_frozen BK199.out 1;have hfz21_2:=blk_frozen BK199.out 2;have hfz21_3:=blk_frozen BK199.out 3;have hfz21_4:=blk_frozen BK199.out 4))
    go_ret
    exact ⟨by first | rfl | (simp [errW_none,errW_some] <;> rfl) | (simp [*,errW_none,errW_some] <;> rfl),by repeat (first | (with_reducible first | exact HB.out | apply below_alloc | apply pw_below_drewN | apply below_drew1 | refine below_set ?_ GE198.out | refine below_set ?_ GE199.out) | exact HB.out)⟩
   ·rw [if_neg c16] at H
    have c16b0:(a1_3.toList == a2_3.toList) = false:=beq_eq_false_iff_ne.mpr c16
    have c16b1:(a1_3.toList != a2_3.toList) = true:=bne_iff_ne.mpr c16
    obtain rfl:=Option.some.inj H
    go_enter Tryd.func98,Tryd.ntmps98
    go_wp2_with (first | ((with_reducible refine gate_dst (N:=4) rfl ?_);refine box_event ?hg (N:=4) ?hd (cs:=#[.int .u64 a1_0,.int .u64 a1_1,.int .u64 a1_2,.string a1_3,.string a1_4]) (t:=112) ?hr ?_;(case hd=>rfl);(case hg=>rfl);(case hr=>first | (go_simp;done) | (go_simp;rfl));intro gb198 hg w22 hbox hb;have n0_:=Aside0.mk (below_step (by repeat (first | (with_reducible first | exact HB.out | apply below_alloc | apply pw_below_drewN | apply below_drew1) | exact HB.out)) hb);have n1_:=Aside0.mk (hbox);have n2_:=Aside0.mk ((by rw [hg];exact (below_size (by repeat (first | (with_reducible first | exact HB.out | apply below_alloc | apply pw_below_drewN | apply below_drew1) | exact HB.out))):w.heap.size ≤ gb198));have n3_:=Aside0.mk ((by rw [hg];exact (below_size (by repeat (first | (with_reducible first | exact HB.out | apply below_alloc | apply pw_below_drewN | apply below_drew1) | exact HB.out))):w.heap.size ≤ gb198));clear HB;have HB:=n0_;have BK198:=n1_;have GW198:=n2_;have GE198:=n3_;clear n0_ n1_ n2_ n3_;clear hb hbox hg) | ((with_reducible refine gate_dst (N:=5) rfl ?_);refine box_event ?hg (N:=5) ?hd (cs:=#[.int .u64 a2_0,.int .u64 a2_1,.int .u64 a2_2,.string a2_3,.string a2_4]) (t:=112) ?hr ?_;(case hd=>rfl);(case hg=>rfl);(case hr=>first | (go_simp;done) | (go_simp;rfl));intro gb199 hg w23 hbox hb;have n0_:=Aside0.mk (blk_below (g:=gb198) (o:=.cells #[.int .u64 a1_0,.int .u64 a1_1,.int .u64 a1_2,.string a1_3,.string a1_4] 112 (0,0)) (by (with_reducible repeat (first | refine blk_drewN ?_ _ | refine blk_drew ?_ | refine blk_alloc ?_ _));exact BK198.out) hb);have n1_:=Aside0.mk (below_step (by repeat (first | (with_reducible first | exact HB.out | apply below_alloc | apply pw_below_drewN | apply below_drew1 | refine below_set ?_ GE198.out) | exact HB.out)) hb);have n2_:=Aside0.mk (hbox);have n3_:=Aside0.mk ((by rw [hg];exact (below_size (by repeat (first | (with_reducible first | exact HB.out | apply below_alloc | apply pw_below_drewN | apply below_drew1 | refine below_set ?_ GE198.out) | exact HB.out))):w.heap.size ≤ gb199));have n4_:=Aside0.mk ((by rw [hg];exact (below_size (by repeat (first | (with_reducible first | exact HB.out | apply below_alloc | apply pw_below_drewN | apply below_drew1 | refine below_set ?_ GE198.out) | exact HB.out))):w.heap.size ≤ gb199));have n5_:=Aside0.mk ((by rw [hg];exact Nat.ne_of_lt (blk_lt (g:=gb198) (o:=.cells #[.int .u64 a1_0,.int .u64 a1_1,.int .u64 a1_2,.string a1_3,.string a1_4] 112 (0,0)) (by (with_reducible repeat (first | refine blk_drewN ?_ _ | refine blk_drew ?_ | refine blk_alloc ?_ _));exact BK198.out)):gb198 ≠ gb199));have n6_:=Aside0.mk ((by rw [hg];exact Nat.ne_of_gt (blk_lt (g:=gb198) (o:=.cells #[.int .u64 a1_0,.int .u64 a1_1,.int .u64 a1_2,.string a1_3,.string a1_4] 112 (0,0)) (by (with_reducible repeat (first | refine blk_drewN ?_ _ | refine blk_drew ?_ | refine blk_alloc ?_ _));exact BK198.out)):gb199 ≠ gb198));clear BK198;clear HB;have BK198:=n0_;have HB:=n1_;have BK199:=n2_;have GW199:=n3_;have GE199:=n4_;have NB198_199:=n5_;have NB199_198:=n6_;clear n0_ n1_ n2_ n3_ n4_ n5_ n6_;clear hb hbox hg;have hnb24:=NB198_199.out;have hnc24:=NB199_198.out;have hcz25_0:w23.cell? ⟨gb198,0,none⟩ = some (.int .u64 a1_0):=(blk_cell BK198.out 0).trans rfl;have hcz25_1:w23.cell? ⟨gb198,1,none⟩ = some (.int .u64 a1_1):=(blk_cell BK198.out 1).trans rfl;have hcz25_2:w23.cell? ⟨gb198,2,none⟩ = some (.int .u64 a1_2):=(blk_cell BK198.out 2).trans rfl;have hcz25_3:w23.cell? ⟨gb198,3,none⟩ = some (.string a1_3):=(blk_cell BK198.out 3).trans rfl;have hcz25_4:w23.cell? ⟨gb198,4,none⟩ = some (.string a1_4):=(blk_cell BK198.out 4).trans rfl;have hfz25_0:=blk_frozen BK198.out 0;have hfz25_1:=blk_frozen BK198.out 1;have hfz25_2:=blk_frozen BK198.out 2;have hfz25_3:=blk_frozen BK198.out 3;have hfz25_4:=blk_frozen BK198.out 4;have hcz26_0:w23.cell? ⟨gb199,0,none⟩ = some (.int .u64 a2_0):=(blk_cell BK199.out 0).trans rfl;have hcz26_1:w23.cell? ⟨gb199,1,none⟩ = some (.int .u64 a2_1):=(blk_cell BK199.out 1).trans rfl;have hcz26_2:w23.cell? ⟨gb199,2,none⟩ = some (.int .u64 a2_2):=(blk_cell BK199.out 2).trans rfl;have hcz26_3:w23.cell? ⟨gb199,3,none⟩ = some (.string a2_3):=(blk_cell BK199.out 3).trans rfl;have hcz26_4:w23.cell? ⟨gb199,4,none⟩ = some (.string a2_4):=(blk_cell BK199.out 4).trans rfl;have hfz26_0:=blk_frozen BK199.out 0;have hfz26_1:=blk_frozen BK199.out 1;have hfz26_2:=blk_frozen BK199.out 2;have hfz26_3:=blk_frozen BK199.out 3;have hfz26_4:=blk_frozen BK199.out 4))
    go_ret
    exact ⟨by first | rfl | (simp [errW_none,errW_some] <;> rfl) | (simp [*,errW_none,errW_some] <;> rfl),by repeat (first | (with_reducible first | exact HB.out | apply below_alloc | apply pw_below_drewN | apply below_drew1 | refine below_set ?_ GE198.out | refine below_set ?_ GE199.out) | exact HB.out)⟩
end Go.Proofs.YteilnbnnhocciaaDoor.KV

/-! KV56 -/
namespace Go.Proofs.YteilnbnnhocciaaDoor.KV
open Go.RowKit Go.Proofs.YteilnbnnhocciaaDoorW.PrintWords Go.Proofs.YteilnbnnhocciaaDoorW.PrintLast Go.Proofs.YteilnbnnhocciaaDoorW.PrintMore Go.Proofs.YteilnbnnhocciaaDoorM
attribute [local go_sem] max2_int min2_int max_two min_two max_three min_three max_four min_four
def bourseref13_with.l0:Nat → Int → List (S112) → Bool → List (S112) → Int → Int → Int → Int → Int → ByteArray → ByteArray → Option ((List (S112)))
 | 0,_,_,_,_,_,_,_,_,_,_,_=>none
 | k + 1,x0,x7,x8,x11,x12,x13,x220000,x220001,x220002,x220003,x220004=>if x13 < x12 then (if 0 ≤ x13 then (if x13 < (x11.length:Int) then (if x8 = true then (if x7.length < 2513169434916 then (bourseref13_with.l0 k x0 (x7 ++ [(⟨(rd_T112 x11 x13).f0,(rd_T112 x11 x13).f1,(rd_T112 x11 x13).f2,(rd_T112 x11 x13).f3,(rd_T112 x11 x13).f4⟩:S112)]) x8 x11 x12 (wrap64 (x13 + 1)) x220000 x220001 x220002 x220003 x220004) else (none)) else ((bourseref13_ahead.f x0 x220000 x220001 x220002 x220003 x220004 ((rd_T112 x11 x13).f0) ((rd_T112 x11 x13).f1) ((rd_T112 x11 x13).f2) ((rd_T112 x11 x13).f3) ((rd_T112 x11 x13).f4)).bind fun t225=>(if t225 = true then (if x7.length < 2513169434916 then ((some (x7 ++ [(⟨x220000,x220001,x220002,x220003,x220004⟩:S112)]:List (S112))).bind fun y226=>(if y226.length < 2513169434916 then (bourseref13_with.l0 k x0 (y226 ++ [(⟨(rd_T112 x11 x13).f0,(rd_T112 x11 x13).f1,(rd_T112 x11 x13).f2,(rd_T112 x11 x13).f3,(rd_T112 x11 x13).f4⟩:S112)]) true x11 x12 (wrap64 (x13 + 1)) x220000 x220001 x220002 x220003 x220004) else (none))) else (none)) else (if x7.length < 2513169434916 then (bourseref13_with.l0 k x0 (x7 ++ [(⟨(rd_T112 x11 x13).f0,(rd_T112 x11 x13).f1,(rd_T112 x11 x13).f2,(rd_T112 x11 x13).f3,(rd_T112 x11 x13).f4⟩:S112)]) x8 x11 x12 (wrap64 (x13 + 1)) x220000 x220001 x220002 x220003 x220004) else (none))))) else (none)) else (none)) else (if x8 = true then (some x7) else (if x7.length < 2513169434916 then (some (x7 ++ [(⟨x220000,x220001,x220002,x220003,x220004⟩:S112)])) else (none)))
def bourseref13_with.f (k:Nat) (a0:Int) (l1:List (S112)) (a2_0:Int) (a2_1:Int) (a2_2:Int) (a2_3:ByteArray) (a2_4:ByteArray):Option ((List (S112))):=bourseref13_with.l0 k a0 ([]:List (S112)) false l1 (l1.length:Int) 0 a2_0 a2_1 a2_2 a2_3 a2_4
set_option maxHeartbeats 8000000 in
set_option maxRecDepth 100000 in
theorem bourseref13_with.calls (k:Nat) (a0:Int) (A1:Option Addr) (c1:Nat) (l1:List (S112)) (a2_0:Int) (a2_1:Int) (a2_2:Int) (a2_3:ByteArray) (a2_4:ByteArray) (r:List (S112)) (w:World) (hr1:Kd.C k112 w A1 l1.length l1) (hc1:l1.length ≤ c1) (h:bourseref13_with.f k a0 l1 a2_0 a2_1 a2_2 a2_3 a2_4 = some r) :
  Calls Tryd.prog 129 #[.int .i64 a0,.slice A1 l1.length c1,.agg #[.int .u64 a2_0,.int .u64 a2_1,.int .u64 a2_2,.string a2_3,.string a2_4]] w fun e w'=>∃ v0_:Value,e = .returned (v0_) ∧ Kd.R k112 112 w' w.heap.size (fun _=>True) v0_ r ∧ Below w.heap.size w w':=by
 have hu112:=Tryd.underlying112
 have HR1:=Aside0.mk hr1
 have HC1:=Aside0.mk hc1
 clear hr1 hc1
 have HB:=Aside0.mk (Below.refl w.heap.size w)
 have H:(bourseref13_with.l0 k a0 ([]:List (S112)) false l1 (l1.length:Int) 0 a2_0 a2_1 a2_2 a2_3 a2_4) = some r:=h
 clear h
 have H':=Aside0.mk H
 clear H
 go_enter Tryd.func129,Tryd.ntmps129
 go_wp2_with (first | ((with_reducible refine gate_dst (N:=5) rfl ?_);refine box_event ?hg (N:=5) ?hd (cs:=#[.int .u64 a2_0,.int .u64 a2_1,.int .u64 a2_2,.string a2_3,.string a2_4]) (t:=112) ?hr ?_;(case hd=>rfl);(case hg=>rfl);(case hr=>first | (go_simp;done) | (go_simp;rfl));intro gb219 hg w4 hbox hb;have n0_:=Aside0.mk (below_step (by repeat (first | (with_reducible first | exact HB.out | apply below_alloc | apply pw_below_drewN | apply below_drew1) | exact HB.out)) hb);have n1_:=Aside0.mk (hbox);have n2_:=Aside0.mk ((by rw [hg];exact (below_size (by repeat (first | (with_reducible first | exact HB.out | apply below_alloc | apply pw_below_drewN | apply below_drew1) | exact HB.out))):w.heap.size ≤ gb219));have n3_:=Aside0.mk ((by rw [hg];exact (below_size (by repeat (first | (with_reducible first | exact HB.out | apply below_alloc | apply pw_below_drewN | apply below_drew1) | exact HB.out))):w.heap.size ≤ gb219));clear HB;have HB:=n0_;have BK219:=n1_;have GW219:=n2_;have GE219:=n3_;clear n0_ n1_ n2_ n3_;clear hb hbox hg))
 go_loopg [7,8,13] k (fun kq v7 v8 v13 w'=>∃ (x7_1:List (S112)) (x8_1:Bool) (x13_1:Int),v8 = .bool x8_1 ∧ v13 = .int .i64 x13_1 ∧ Aside0 (bourseref13_with.l0 kq a0 x7_1 x8_1 l1 (l1.length:Int) x13_1 a2_0 a2_1 a2_2 a2_3 a2_4 = some r) ∧ Aside0 (kq ≤ k) ∧ Aside0 (Kd.R k112 112 w' w.heap.size (fun k_=>k_ ≠ gb219) v7 x7_1) ∧ Aside0 (w'.heap[gb219]? = some (.cells #[.int .u64 a2_0,.int .u64 a2_1,.int .u64 a2_2,.string a2_3,.string a2_4] 112 (0,0))) ∧ Aside0 (Below w.heap.size w w'))
 case atStart=>exact ⟨(([]:List (S112))),(false),(0),(by first | rfl | (simp;done) | (simp [*];done)),(by first | rfl | (simp;done) | (simp [*];done)),H',⟨Nat.le_refl _⟩,⟨by first | exact Kd.R_nil _ _ _ _ _ | exact Kd.N_nil _ _ _ _ _ | exact Kd.V_nil _ _ _ _ _ | exact Kd.Q_nil _ _ _ _ _ | exact Kd.S_nil _ _ _ _ _⟩,⟨by (with_reducible repeat (first | refine blk_drewN ?_ _ | refine blk_drew ?_ | refine blk_alloc ?_ _));exact BK219.out⟩,⟨by repeat (first | (with_reducible first | exact HB.out | apply below_alloc | apply pw_below_drewN | apply below_drew1 | refine below_set ?_ GE219.out) | exact HB.out)⟩⟩
 case round=>
  clear H'
  try clear c1
  try clear p2
  obtain ⟨x7_1,x8_1,x13_1,rfl,rfl,HA,HK1,HO_7,BK219,HB⟩:=hrel
  cases gk with
  | zero=>exact absurd HA.out (by simp [bourseref13_with.l0])
  | succ k1=>
   have H:=HA.out
   clear HA
   simp only [bourseref13_with.l0] at H
   by_cases c5:x13_1 < (l1.length:Int)
   ·rw [if_pos c5] at H
    have c5b0:decide (x13_1 < (l1.length:Int)) = true:=decide_eq_true c5
    clear c5
    by_cases c6:0 ≤ x13_1
    ·rw [if_pos c6] at H
     have c6b0:decide (0 ≤ x13_1) = true:=decide_eq_true c6
     clear c6
     by_cases c7:x13_1 < (l1.length:Int)
     ·rw [if_pos c7] at H
      have c7b0:decide (x13_1 < (l1.length:Int)) = true:=decide_eq_true c7
      clear c7
      by_cases c8:x8_1 = true
      ·subst c8
       have H1:(if x7_1.length < 2513169434916 then (bourseref13_with.l0 k1 a0 (x7_1 ++ [(⟨(rd_T112 l1 x13_1).f0,(rd_T112 l1 x13_1).f1,(rd_T112 l1 x13_1).f2,(rd_T112 l1 x13_1).f3,(rd_T112 l1 x13_1).f4⟩:S112)]) true l1 (l1.length:Int) (wrap64 (x13_1 + 1)) a2_0 a2_1 a2_2 a2_3 a2_4) else (none)) = some r:=by rw [if_pos rfl] at H;exact H
       clear H
       have H:=H1
       clear H1
       by_cases c9:x7_1.length < 2513169434916
       ·rw [if_pos c9] at H
        have LMc9:=Aside0.mk c9
        clear c9
        obtain ⟨y222,hy222⟩:∃ y_:List (S112),y_ = (x7_1 ++ [(⟨(rd_T112 l1 x13_1).f0,(rd_T112 l1 x13_1).f1,(rd_T112 l1 x13_1).f2,(rd_T112 l1 x13_1).f3,(rd_T112 l1 x13_1).f4⟩:S112)]):=⟨_,rfl⟩
        replace H:(bourseref13_with.l0 k1 a0 y222 true l1 (l1.length:Int) (wrap64 (x13_1 + 1)) a2_0 a2_1 a2_2 a2_3 a2_4) = some r:=by first | (rw [hy222];with_reducible exact H) | (have H2_:=(Option.bind_some _ _).symm.trans H;rw [hy222];with_reducible exact H2_) | (have H2_:=(Option.bind_some _ _).symm.trans H;with_reducible exact H2_) | with_reducible exact H | (rw [hy222];exact H) | exact H
        have Ny222:=Aside0.mk hy222
        clear hy222
        have H':=Aside0.mk H
        clear H
        have p220:0 ≤ (x13_1:Int):=of_decide_eq_true (by first | (with_reducible assumption) | assumption)
        have q220:x13_1 < (l1.length:Int):=of_decide_eq_true (by first | (with_reducible assumption) | assumption)
        obtain ⟨ad220,e220,hx220_0,hx220_1,hx220_2,hx220_3,hx220_4⟩:=at_T112 HR1.out x13_1 p220 q220
        cases e220
        replace hx220_0:=(HB.out.cell (World.block_lt_of_cell? w _ hx220_0)).trans hx220_0
        replace hx220_1:=(HB.out.cell (World.block_lt_of_cell? w _ hx220_1)).trans hx220_1
        replace hx220_2:=(HB.out.cell (World.block_lt_of_cell? w _ hx220_2)).trans hx220_2
        replace hx220_3:=(HB.out.cell (World.block_lt_of_cell? w _ hx220_3)).trans hx220_3
        replace hx220_4:=(HB.out.cell (World.block_lt_of_cell? w _ hx220_4)).trans hx220_4
        replace p220:=eq_true p220
        replace q220:=eq_true q220
        go_wp2_with (first | ((with_reducible refine gate_dst (N:=10) rfl ?_);refine box_event ?hg (N:=10) ?hd (cs:=#[.int .u64 0,.int .u64 0,.int .u64 0,.string (⟨#[]⟩:ByteArray),.string (⟨#[]⟩:ByteArray)]) (t:=112) ?hr ?_;(case hd=>rfl);(case hg=>rfl);(case hr=>first | (go_simp;done) | (go_simp;rfl));intro gb221 hg w10 hbox hb;have n0_:=Aside0.mk (Kd.R_below (Kd.R_elderB (by (with_reducible repeat (first | apply Kd.R_alloc | apply Kd.R_drewN | apply Kd.R_drew));exact HO_7.out) gb221 (Nat.le_of_eq hg.symm)) hb);have n1_:=Aside0.mk (blk_below (g:=gb219) (o:=.cells #[.int .u64 a2_0,.int .u64 a2_1,.int .u64 a2_2,.string a2_3,.string a2_4] 112 (0,0)) (by (with_reducible repeat (first | refine blk_drewN ?_ _ | refine blk_drew ?_ | refine blk_alloc ?_ _));exact BK219.out) hb);have n2_:=Aside0.mk (below_step (by repeat (first | (with_reducible first | exact HB.out | apply below_alloc | apply pw_below_drewN | apply below_drew1 | refine below_set ?_ GE219.out) | exact HB.out)) hb);have n3_:=Aside0.mk (hbox);have n4_:=Aside0.mk ((by rw [hg];exact (below_size (by repeat (first | (with_reducible first | exact HB.out | apply below_alloc | apply pw_below_drewN | apply below_drew1 | refine below_set ?_ GE219.out) | exact HB.out))):w.heap.size ≤ gb221));have n5_:=Aside0.mk ((by rw [hg];exact (below_size (by repeat (first | (with_reducible first | exact HB.out | apply below_alloc | apply pw_below_drewN | apply below_drew1 | refine below_set ?_ GE219.out) | exact HB.out))):w.heap.size ≤ gb221));have n6_:=Aside0.mk ((by rw [hg];exact Nat.ne_of_lt (blk_lt (g:=gb219) (o:=.cells #[.int .u64 a2_0,.int .u64 a2_1,.int .u64 a2_2,.string a2_3,.string a2_4] 112 (0,0)) (by (with_reducible repeat (first | refine blk_drewN ?_ _ | refine blk_drew ?_ | refine blk_alloc ?_ _));exact BK219.out)):gb219 ≠ gb221));have n7_:=Aside0.mk ((by rw [hg];exact Nat.ne_of_gt (blk_lt (g:=gb219) (o:=.cells #[.int .u64 a2_0,.int .u64 a2_1,.int .u64 a2_2,.string a2_3,.string a2_4] 112 (0,0)) (by (with_reducible repeat (first | refine blk_drewN ?_ _ | refine blk_drew ?_ | refine blk_alloc ?_ _));exact BK219.out)):gb221 ≠ gb219));clear HO_7;clear BK219;clear HB;have HO_7:=n0_;have BK219:=n1_;have HB:=n2_;have BK221:=n3_;have GW221:=n4_;have GE221:=n5_;have NB219_221:=n6_;have NB221_219:=n7_;clear n0_ n1_ n2_ n3_ n4_ n5_ n6_ n7_;clear hb hbox hg;have hnb11:=NB221_219.out;have hnc11:=NB219_221.out;have hcz12_0:w10.cell? ⟨gb221,0,none⟩ = some (.int .u64 0):=(blk_cell BK221.out 0).trans rfl;have hcz12_1:w10.cell? ⟨gb221,1,none⟩ = some (.int .u64 0):=(blk_cell BK221.out 1).trans rfl;have hcz12_2:w10.cell? ⟨gb221,2,none⟩ = some (.int .u64 0):=(blk_cell BK221.out 2).trans rfl;have hcz12_3:w10.cell? ⟨gb221,3,none⟩ = some (.string (⟨#[]⟩:ByteArray)):=(blk_cell BK221.out 3).trans rfl;have hcz12_4:w10.cell? ⟨gb221,4,none⟩ = some (.string (⟨#[]⟩:ByteArray)):=(blk_cell BK221.out 4).trans rfl;have hfz12_0:=blk_frozen BK221.out 0;have hfz12_1:=blk_frozen BK221.out 1;have hfz12_2:=blk_frozen BK221.out 2;have hfz12_3:=blk_frozen BK221.out 3;have hfz12_4:=blk_frozen BK221.out 4) | ((with_reducible refine gate_builtin (b:=.append) (xs:=#[.tmp 29,.tmp 31]) rfl ?_);at_builtin;refine Kd.R_append k112 (w0:=w) w.heap.size rfl (.tmp 29) (.tmp 31) 80 112 (.agg #[(.int .u64 0),(.int .u64 0),(.int .u64 0),(.string ⟨#[]⟩),(.string ⟨#[]⟩)]) 56 rfl Tryd.underlying80 info112 rfl (by decide) (by omega) u7 x7_1 (⟨(rd_T112 l1 x13_1).f0,(rd_T112 l1 x13_1).f1,(rd_T112 l1 x13_1).f2,(rd_T112 l1 x13_1).f3,(rd_T112 l1 x13_1).f4⟩:S112) [.int .u64 ((rd_T112 l1 x13_1).f0),.int .u64 ((rd_T112 l1 x13_1).f1),.int .u64 ((rd_T112 l1 x13_1).f2),.string ((rd_T112 l1 x13_1).f3),.string ((rd_T112 l1 x13_1).f4)] (fun k_=>k_ ≠ gb219 ∧ k_ ≠ gb221) (fun _=>False) rfl (by first | (go_simp;done) | (go_simp;rfl)) ?aP (fun _ hk=>hk.elim) ?aF ?aO ?aB ?aS ?aL ?_;(case aP=>exact k112_mkM _ _ _ (⟨(rd_T112 l1 x13_1).f0,(rd_T112 l1 x13_1).f1,(rd_T112 l1 x13_1).f2,(rd_T112 l1 x13_1).f3,(rd_T112 l1 x13_1).f4⟩:S112));(case aB=>exact (by repeat (first | (with_reducible first | exact HB.out | apply below_alloc | apply pw_below_drewN | apply below_drew1 | refine below_set ?_ GE219.out | refine below_set ?_ GE221.out) | exact HB.out)));(case aF=>exact (fun k_ hk=>⟨Kd.freshB (g:=gb219) (o:=.cells #[.int .u64 a2_0,.int .u64 a2_1,.int .u64 a2_2,.string a2_3,.string a2_4] 112 (0,0)) (by (with_reducible repeat (first | refine blk_drewN ?_ _ | refine blk_drew ?_ | refine blk_alloc ?_ _));refine blk_far ?_ NB219_221.out _;(with_reducible repeat (first | refine blk_drewN ?_ _ | refine blk_drew ?_ | refine blk_alloc ?_ _));refine blk_far ?_ NB219_221.out _;(with_reducible repeat (first | refine blk_drewN ?_ _ | refine blk_drew ?_ | refine blk_alloc ?_ _));refine blk_far ?_ NB219_221.out _;(with_reducible repeat (first | refine blk_drewN ?_ _ | refine blk_drew ?_ | refine blk_alloc ?_ _));refine blk_far ?_ NB219_221.out _;(with_reducible repeat (first | refine blk_drewN ?_ _ | refine blk_drew ?_ | refine blk_alloc ?_ _));refine blk_far ?_ NB219_221.out _;(with_reducible repeat (first | refine blk_drewN ?_ _ | refine blk_drew ?_ | refine blk_alloc ?_ _));exact BK219.out) k_ hk,Kd.freshB (g:=gb221) (o:=.cells #[.int .u64 ((rd_T112 l1 x13_1).f0),.int .u64 ((rd_T112 l1 x13_1).f1),.int .u64 ((rd_T112 l1 x13_1).f2),.string ((rd_T112 l1 x13_1).f3),.string ((rd_T112 l1 x13_1).f4)] 112 (0,0)) (by (with_reducible repeat (first | refine blk_drewN ?_ _ | refine blk_drew ?_ | refine blk_alloc ?_ _));refine blk_put (cs:=#[.int .u64 ((rd_T112 l1 x13_1).f0),.int .u64 ((rd_T112 l1 x13_1).f1),.int .u64 ((rd_T112 l1 x13_1).f2),.string ((rd_T112 l1 x13_1).f3),.string (⟨#[]⟩:ByteArray)]) ?_ 4 _ rfl;(with_reducible repeat (first | refine blk_drewN ?_ _ | refine blk_drew ?_ | refine blk_alloc ?_ _));refine blk_put (cs:=#[.int .u64 ((rd_T112 l1 x13_1).f0),.int .u64 ((rd_T112 l1 x13_1).f1),.int .u64 ((rd_T112 l1 x13_1).f2),.string (⟨#[]⟩:ByteArray),.string (⟨#[]⟩:ByteArray)]) ?_ 3 _ rfl;(with_reducible repeat (first | refine blk_drewN ?_ _ | refine blk_drew ?_ | refine blk_alloc ?_ _));refine blk_put (cs:=#[.int .u64 ((rd_T112 l1 x13_1).f0),.int .u64 ((rd_T112 l1 x13_1).f1),.int .u64 0,.string (⟨#[]⟩:ByteArray),.string (⟨#[]⟩:ByteArray)]) ?_ 2 _ rfl;(with_reducible repeat (first | refine blk_drewN ?_ _ | refine blk_drew ?_ | refine blk_alloc ?_ _));refine blk_put (cs:=#[.int .u64 ((rd_T112 l1 x13_1).f0),.int .u64 0,.int .u64 0,.string (⟨#[]⟩:ByteArray),.string (⟨#[]⟩:ByteArray)]) ?_ 1 _ rfl;(with_reducible repeat (first | refine blk_drewN ?_ _ | refine blk_drew ?_ | refine blk_alloc ?_ _));refine blk_put (cs:=#[.int .u64 0,.int .u64 0,.int .u64 0,.string (⟨#[]⟩:ByteArray),.string (⟨#[]⟩:ByteArray)]) ?_ 0 _ rfl;(with_reducible repeat (first | refine blk_drewN ?_ _ | refine blk_drew ?_ | refine blk_alloc ?_ _));exact BK221.out) k_ hk⟩));(case aO=>exact (by (with_reducible repeat (first | apply Kd.R_alloc | apply Kd.R_drewN | apply Kd.R_drew));exact Kd.R_mono (Kd.R_far (p:=⟨gb221,4,none⟩) (Kd.R_far (p:=⟨gb221,3,none⟩) (Kd.R_far (p:=⟨gb221,2,none⟩) (Kd.R_far (p:=⟨gb221,1,none⟩) (Kd.R_far (p:=⟨gb221,0,none⟩) (Kd.R_mono HO_7.out (fun k_ hk=>(⟨hk,hk.2⟩:_ ∧ k_ ≠ gb221))) (fun _ hk=>hk.2) (.int .u64 ((rd_T112 l1 x13_1).f0))) (fun _ hk=>hk.2) (.int .u64 ((rd_T112 l1 x13_1).f1))) (fun _ hk=>hk.2) (.int .u64 ((rd_T112 l1 x13_1).f2))) (fun _ hk=>hk.2) (.string ((rd_T112 l1 x13_1).f3))) (fun _ hk=>hk.2) (.string ((rd_T112 l1 x13_1).f4))) (fun _ hk=>⟨hk.1.1,hk.1.2⟩)));(case aS=>exact (below_size (by repeat (first | (with_reducible first | exact HB.out | apply below_alloc | apply pw_below_drewN | apply below_drew1 | refine below_set ?_ GE219.out | refine below_set ?_ GE221.out) | exact HB.out))));(case aL=>have:=LMc9.out;omega);intro v223 w13 ho hb hg hat;rw [← Ny222.out] at ho;have n0_:=Aside0.mk (blk_grown (g:=gb219) (o:=.cells #[.int .u64 a2_0,.int .u64 a2_1,.int .u64 a2_2,.string a2_3,.string a2_4] 112 (0,0)) (by (with_reducible repeat (first | refine blk_drewN ?_ _ | refine blk_drew ?_ | refine blk_alloc ?_ _));refine blk_far ?_ NB219_221.out _;(with_reducible repeat (first | refine blk_drewN ?_ _ | refine blk_drew ?_ | refine blk_alloc ?_ _));refine blk_far ?_ NB219_221.out _;(with_reducible repeat (first | refine blk_drewN ?_ _ | refine blk_drew ?_ | refine blk_alloc ?_ _));refine blk_far ?_ NB219_221.out _;(with_reducible repeat (first | refine blk_drewN ?_ _ | refine blk_drew ?_ | refine blk_alloc ?_ _));refine blk_far ?_ NB219_221.out _;(with_reducible repeat (first | refine blk_drewN ?_ _ | refine blk_drew ?_ | refine blk_alloc ?_ _));refine blk_far ?_ NB219_221.out _;(with_reducible repeat (first | refine blk_drewN ?_ _ | refine blk_drew ?_ | refine blk_alloc ?_ _));exact BK219.out) hg (Kd.R_away HO_7.out (fun _ hk=>hk.1)));have n1_:=Aside0.mk (blk_grown (g:=gb221) (o:=.cells #[.int .u64 ((rd_T112 l1 x13_1).f0),.int .u64 ((rd_T112 l1 x13_1).f1),.int .u64 ((rd_T112 l1 x13_1).f2),.string ((rd_T112 l1 x13_1).f3),.string ((rd_T112 l1 x13_1).f4)] 112 (0,0)) (by (with_reducible repeat (first | refine blk_drewN ?_ _ | refine blk_drew ?_ | refine blk_alloc ?_ _));refine blk_put (cs:=#[.int .u64 ((rd_T112 l1 x13_1).f0),.int .u64 ((rd_T112 l1 x13_1).f1),.int .u64 ((rd_T112 l1 x13_1).f2),.string ((rd_T112 l1 x13_1).f3),.string (⟨#[]⟩:ByteArray)]) ?_ 4 _ rfl;(with_reducible repeat (first | refine blk_drewN ?_ _ | refine blk_drew ?_ | refine blk_alloc ?_ _));refine blk_put (cs:=#[.int .u64 ((rd_T112 l1 x13_1).f0),.int .u64 ((rd_T112 l1 x13_1).f1),.int .u64 ((rd_T112 l1 x13_1).f2),.string (⟨#[]⟩:ByteArray),.string (⟨#[]⟩:ByteArray)]) ?_ 3 _ rfl;(with_reducible repeat (first | refine blk_drewN ?_ _ | refine blk_drew ?_ | refine blk_alloc ?_ _));refine blk_put (cs:=#[.int .u64 ((rd_T112 l1 x13_1).f0),.int .u64 ((rd_T112 l1 x13_1).f1),.int .u64 0,.string (⟨#[]⟩:ByteArray),.string (⟨#[]⟩:ByteArray)]) ?_ 2 _ rfl;(with_reducible repeat (first | refine blk_drewN ?_ _ | refine blk_drew ?_ | refine blk_alloc ?_ _));refine blk_put (cs:=#[.int .u64 ((rd_T112 l1 x13_1).f0),.int .u64 0,.int .u64 0,.string (⟨#[]⟩:ByteArray),.string (⟨#[]⟩:ByteArray)]) ?_ 1 _ rfl;(with_reducible repeat (first | refine blk_drewN ?_ _ | refine blk_drew ?_ | refine blk_alloc ?_ _));refine blk_put (cs:=#[.int .u64 0,.int .u64 0,.int .u64 0,.string (⟨#[]⟩:ByteArray),.string (⟨#[]⟩:ByteArray)]) ?_ 0 _ rfl;(with_reducible repeat (first | refine blk_drewN ?_ _ | refine blk_drew ?_ | refine blk_alloc ?_ _));exact BK221.out) hg (Kd.R_away HO_7.out (fun _ hk=>hk.2)));have n2_:=Aside0.mk (hb);have n3_:=Aside0.mk (ho);clear BK219;clear BK221;clear HB;clear HO_7;have BK219:=n0_;have BK221:=n1_;have HB:=n2_;have HO224:=n3_;clear n0_ n1_ n2_ n3_;clear ho hb hg hat))
        go_roundg k1
        case measure=>have:=HK1.out;omega
        case rel=>exact ⟨(y222),(true),(wrap64 (x13_1 + 1)),(by first | rfl | (simp;done) | (simp [*];done)),(by first | rfl | (simp;done) | (simp [*];done)),H',⟨by have:=HK1.out;omega⟩,⟨by (with_reducible repeat (first | apply Kd.R_alloc | apply Kd.R_drewN | apply Kd.R_drew));exact Kd.R_mono HO224.out (fun _ hk=>hk.1)⟩,⟨by (with_reducible repeat (first | refine blk_drewN ?_ _ | refine blk_drew ?_ | refine blk_alloc ?_ _));exact BK219.out⟩,⟨by repeat (first | (with_reducible first | exact HB.out | apply below_alloc | apply pw_below_drewN | apply below_drew1 | refine below_set ?_ GE219.out | refine below_set ?_ GE221.out) | exact HB.out)⟩⟩
       ·rw [if_neg c9] at H
        exact absurd H (by simp)
      ·replace c8:=Bool.eq_false_iff.mpr c8
       subst c8
       have H1:((bourseref13_ahead.f a0 a2_0 a2_1 a2_2 a2_3 a2_4 ((rd_T112 l1 x13_1).f0) ((rd_T112 l1 x13_1).f1) ((rd_T112 l1 x13_1).f2) ((rd_T112 l1 x13_1).f3) ((rd_T112 l1 x13_1).f4)).bind fun t225=>(if t225 = true then (if x7_1.length < 2513169434916 then ((some (x7_1 ++ [(⟨a2_0,a2_1,a2_2,a2_3,a2_4⟩:S112)]:List (S112))).bind fun y226=>(if y226.length < 2513169434916 then (bourseref13_with.l0 k1 a0 (y226 ++ [(⟨(rd_T112 l1 x13_1).f0,(rd_T112 l1 x13_1).f1,(rd_T112 l1 x13_1).f2,(rd_T112 l1 x13_1).f3,(rd_T112 l1 x13_1).f4⟩:S112)]) true l1 (l1.length:Int) (wrap64 (x13_1 + 1)) a2_0 a2_1 a2_2 a2_3 a2_4) else (none))) else (none)) else (if x7_1.length < 2513169434916 then (bourseref13_with.l0 k1 a0 (x7_1 ++ [(⟨(rd_T112 l1 x13_1).f0,(rd_T112 l1 x13_1).f1,(rd_T112 l1 x13_1).f2,(rd_T112 l1 x13_1).f3,(rd_T112 l1 x13_1).f4⟩:S112)]) false l1 (l1.length:Int) (wrap64 (x13_1 + 1)) a2_0 a2_1 a2_2 a2_3 a2_4) else (none)))) = some r:=by rw [if_neg (show ¬ (false = true) by decide)] at H;exact H
       clear H
       have H:=H1
       clear H1
       replace H:=Option.bind_eq_some_iff.mp H
       obtain ⟨t225,A140,H⟩:=H
       replace H:(if t225 = true then (if x7_1.length < 2513169434916 then ((some (x7_1 ++ [(⟨a2_0,a2_1,a2_2,a2_3,a2_4⟩:S112)]:List (S112))).bind fun y226=>(if y226.length < 2513169434916 then (bourseref13_with.l0 k1 a0 (y226 ++ [(⟨(rd_T112 l1 x13_1).f0,(rd_T112 l1 x13_1).f1,(rd_T112 l1 x13_1).f2,(rd_T112 l1 x13_1).f3,(rd_T112 l1 x13_1).f4⟩:S112)]) true l1 (l1.length:Int) (wrap64 (x13_1 + 1)) a2_0 a2_1 a2_2 a2_3 a2_4) else (none))) else (none)) else (if x7_1.length < 2513169434916 then (bourseref13_with.l0 k1 a0 (x7_1 ++ [(⟨(rd_T112 l1 x13_1).f0,(rd_T112 l1 x13_1).f1,(rd_T112 l1 x13_1).f2,(rd_T112 l1 x13_1).f3,(rd_T112 l1 x13_1).f4⟩:S112)]) false l1 (l1.length:Int) (wrap64 (x13_1 + 1)) a2_0 a2_1 a2_2 a2_3 a2_4) else (none))) = some r:=H
       have A14:=Aside0.mk A140
       clear A140
       by_cases c15:t225 = true
       ·subst c15
        have H1:(if x7_1.length < 2513169434916 then ((some (x7_1 ++ [(⟨a2_0,a2_1,a2_2,a2_3,a2_4⟩:S112)]:List (S112))).bind fun y226=>(if y226.length < 2513169434916 then (bourseref13_with.l0 k1 a0 (y226 ++ [(⟨(rd_T112 l1 x13_1).f0,(rd_T112 l1 x13_1).f1,(rd_T112 l1 x13_1).f2,(rd_T112 l1 x13_1).f3,(rd_T112 l1 x13_1).f4⟩:S112)]) true l1 (l1.length:Int) (wrap64 (x13_1 + 1)) a2_0 a2_1 a2_2 a2_3 a2_4) else (none))) else (none)) = some r:=by rw [if_pos rfl] at H;exact H
        clear H
        have H:=H1
        clear H1
        by_cases c16:x7_1.length < 2513169434916
        ·rw [if_pos c16] at H
         have LMc16:=Aside0.mk c16
         clear c16
         obtain ⟨y226,hy226⟩:∃ y_:List (S112),y_ = (x7_1 ++ [(⟨a2_0,a2_1,a2_2,a2_3,a2_4⟩:S112)]):=⟨_,rfl⟩
         replace H:(if y226.length < 2513169434916 then (bourseref13_with.l0 k1 a0 (y226 ++ [(⟨(rd_T112 l1 x13_1).f0,(rd_T112 l1 x13_1).f1,(rd_T112 l1 x13_1).f2,(rd_T112 l1 x13_1).f3,(rd_T112 l1 x13_1).f4⟩:S112)]) true l1 (l1.length:Int) (wrap64 (x13_1 + 1)) a2_0 a2_1 a2_2 a2_3 a2_4) else (none)) = some r:=by first | (rw [hy226];with_reducible exact H) | (have H2_:=(Option.bind_some _ _).symm.trans H;rw [hy226];with_reducible exact H2_) | (have H2_:=(Option.bind_some _ _).symm.trans H;with_reducible exact H2_) | with_reducible exact H | (rw [hy226];exact H) | exact H
         have Ny226:=Aside0.mk hy226
         clear hy226
         by_cases c17:y226.length < 2513169434916
         ·rw [if_pos c17] at H
          have LMc17:=Aside0.mk c17
          clear c17
          obtain ⟨y229,hy229⟩:∃ y_:List (S112),y_ = (y226 ++ [(⟨(rd_T112 l1 x13_1).f0,(rd_T112 l1 x13_1).f1,(rd_T112 l1 x13_1).f2,(rd_T112 l1 x13_1).f3,(rd_T112 l1 x13_1).f4⟩:S112)]):=⟨_,rfl⟩
          replace H:(bourseref13_with.l0 k1 a0 y229 true l1 (l1.length:Int) (wrap64 (x13_1 + 1)) a2_0 a2_1 a2_2 a2_3 a2_4) = some r:=by first | (rw [hy229];with_reducible exact H) | (have H2_:=(Option.bind_some _ _).symm.trans H;rw [hy229];with_reducible exact H2_) | (have H2_:=(Option.bind_some _ _).symm.trans H;with_reducible exact H2_) | with_reducible exact H | (rw [hy229];exact H) | exact H
          have Ny229:=Aside0.mk hy229
          clear hy229
          have H':=Aside0.mk H
          clear H
          have p220:0 ≤ (x13_1:Int):=of_decide_eq_true (by first | (with_reducible assumption) | assumption)
          have q220:x13_1 < (l1.length:Int):=of_decide_eq_true (by first | (with_reducible assumption) | assumption)
          obtain ⟨ad220,e220,hx220_0,hx220_1,hx220_2,hx220_3,hx220_4⟩:=at_T112 HR1.out x13_1 p220 q220
          cases e220
          replace hx220_0:=(HB.out.cell (World.block_lt_of_cell? w _ hx220_0)).trans hx220_0
          replace hx220_1:=(HB.out.cell (World.block_lt_of_cell? w _ hx220_1)).trans hx220_1
          replace hx220_2:=(HB.out.cell (World.block_lt_of_cell? w _ hx220_2)).trans hx220_2
          replace hx220_3:=(HB.out.cell (World.block_lt_of_cell? w _ hx220_3)).trans hx220_3
          replace hx220_4:=(HB.out.cell (World.block_lt_of_cell? w _ hx220_4)).trans hx220_4
          replace p220:=eq_true p220
          replace q220:=eq_true q220
          go_wp2_with (first | ((with_reducible refine gate_dst (N:=10) rfl ?_);refine box_event ?hg (N:=10) ?hd (cs:=#[.int .u64 0,.int .u64 0,.int .u64 0,.string (⟨#[]⟩:ByteArray),.string (⟨#[]⟩:ByteArray)]) (t:=112) ?hr ?_;(case hd=>rfl);(case hg=>rfl);(case hr=>first | (go_simp;done) | (go_simp;rfl));intro gb221 hg w18 hbox hb;have n0_:=Aside0.mk (Kd.R_below (Kd.R_elderB (by (with_reducible repeat (first | apply Kd.R_alloc | apply Kd.R_drewN | apply Kd.R_drew));exact HO_7.out) gb221 (Nat.le_of_eq hg.symm)) hb);have n1_:=Aside0.mk (blk_below (g:=gb219) (o:=.cells #[.int .u64 a2_0,.int .u64 a2_1,.int .u64 a2_2,.string a2_3,.string a2_4] 112 (0,0)) (by (with_reducible repeat (first | refine blk_drewN ?_ _ | refine blk_drew ?_ | refine blk_alloc ?_ _));exact BK219.out) hb);have n2_:=Aside0.mk (below_step (by repeat (first | (with_reducible first | exact HB.out | apply below_alloc | apply pw_below_drewN | apply below_drew1 | refine below_set ?_ GE219.out) | exact HB.out)) hb);have n3_:=Aside0.mk (hbox);have n4_:=Aside0.mk ((by rw [hg];exact (below_size (by repeat (first | (with_reducible first | exact HB.out | apply below_alloc | apply pw_below_drewN | apply below_drew1 | refine below_set ?_ GE219.out) | exact HB.out))):w.heap.size ≤ gb221));have n5_:=Aside0.mk ((by rw [hg];exact (below_size (by repeat (first | (with_reducible first | exact HB.out | apply below_alloc | apply pw_below_drewN | apply below_drew1 | refine below_set ?_ GE219.out) | exact HB.out))):w.heap.size ≤ gb221));have n6_:=Aside0.mk ((by rw [hg];exact Nat.ne_of_lt (blk_lt (g:=gb219) (o:=.cells #[.int .u64 a2_0,.int .u64 a2_1,.int .u64 a2_2,.string a2_3,.string a2_4] 112 (0,0)) (by (with_reducible repeat (first | refine blk_drewN ?_ _ | refine blk_drew ?_ | refine blk_alloc ?_ _));exact BK219.out)):gb219 ≠ gb221));have n7_:=Aside0.mk ((by rw [hg];exact Nat.ne_of_gt (blk_lt (g:=gb219) (o:=.cells #[.int .u64 a2_0,.int .u64 a2_1,.int .u64 a2_2,.string a2_3,.string a2_4] 112 (0,0)) (by (with_reducible repeat (first | refine blk_drewN ?_ _ | refine blk_drew ?_ | refine blk_alloc ?_ _));exact BK219.out)):gb221 ≠ gb219));clear HO_7;clear BK219;clear HB;have HO_7:=n0_;have BK219:=n1_;have HB:=n2_;have BK221:=n3_;have GW221:=n4_;have GE221:=n5_;have NB219_221:=n6_;have NB221_219:=n7_;clear n0_ n1_ n2_ n3_ n4_ n5_ n6_ n7_;clear hb hbox hg;have hnb19:=NB221_219.out;have hnc19:=NB219_221.out;have hcz20_0:w18.cell? ⟨gb221,0,none⟩ = some (.int .u64 0):=(blk_cell BK221.out 0).trans rfl;have hcz20_1:w18.cell? ⟨gb221,1,none⟩ = some (.int .u64 0):=(blk_cell BK221.out 1).trans rfl;have hcz20_2:w18.cell? ⟨gb221,2,none⟩ = some (.int .u64 0):=(blk_cell BK221.out 2).trans rfl;have hcz20_3:w18.cell? ⟨gb221,3,none⟩ = some (.string (⟨#[]⟩:ByteArray)):=(blk_cell BK221.out 3).trans rfl;have hcz20_4:w18.cell? ⟨gb221,4,none⟩ = some (.string (⟨#[]⟩:ByteArray)):=(blk_cell BK221.out 4).trans rfl;have hfz20_0:=blk_frozen BK221.out 0;have hfz20_1:=blk_frozen BK221.out 1;have hfz20_2:=blk_frozen BK221.out 2;have hfz20_3:=blk_frozen BK221.out 3;have hfz20_4:=blk_frozen BK221.out 4;have hcz21_0:w18.cell? ⟨gb219,0,none⟩ = some (.int .u64 a2_0):=(blk_cell BK219.out 0).trans rfl;have hcz21_1:w18.cell? ⟨gb219,1,none⟩ = some (.int .u64 a2_1):=(blk_cell BK219.out 1).trans rfl;have hcz21_2:w18.cell? ⟨gb219,2,none⟩ = some (.int .u64 a2_2):=(blk_cell BK219.out 2).trans rfl;have hcz21_3:w18.cell? ⟨gb219,3,none⟩ = some (.string a2_3):=(blk_cell BK219.out 3).trans rfl;have hcz21_4:w18.cell? ⟨gb219,4,none⟩ = some (.string a2_4):=(blk_cell BK219.out 4).trans rfl;have hfz21_0:=blk_frozen BK219.out 0;have hfz21_1:=blk_frozen BK219.out 1;have hfz21_2:=blk_frozen BK219.out 2;have hfz21_3:=blk_frozen BK219.out 3;have hfz21_4:=blk_frozen BK219.out 4) | (go_at_call 98;(with_reducible refine (bourseref13_ahead.calls a0 a2_0 a2_1 a2_2 a2_3 a2_4 ((rd_T112 l1 x13_1).f0) ((rd_T112 l1 x13_1).f1) ((rd_T112 l1 x13_1).f2) ((rd_T112 l1 x13_1).f3) ((rd_T112 l1 x13_1).f4) true _ A14.out).mono ?_);rintro e w22 ⟨rfl,hb⟩;have n0_:=Aside0.mk (Kd.R_below (by (with_reducible repeat (first | apply Kd.R_alloc | apply Kd.R_drewN | apply Kd.R_drew));exact (Kd.R_mono (Kd.R_far (p:=⟨gb221,4,none⟩) (Kd.R_far (p:=⟨gb221,3,none⟩) (Kd.R_far (p:=⟨gb221,2,none⟩) (Kd.R_far (p:=⟨gb221,1,none⟩) (Kd.R_far (p:=⟨gb221,0,none⟩) (Kd.R_mono HO_7.out (fun k_ hk=>(⟨hk,hk.2⟩:_ ∧ k_ ≠ gb221))) (fun _ hk=>hk.2) (.int .u64 ((rd_T112 l1 x13_1).f0))) (fun _ hk=>hk.2) (.int .u64 ((rd_T112 l1 x13_1).f1))) (fun _ hk=>hk.2) (.int .u64 ((rd_T112 l1 x13_1).f2))) (fun _ hk=>hk.2) (.string ((rd_T112 l1 x13_1).f3))) (fun _ hk=>hk.2) (.string ((rd_T112 l1 x13_1).f4))) (fun _ h_=>h_.1))) hb);have n1_:=Aside0.mk (blk_below (g:=gb219) (o:=.cells #[.int .u64 a2_0,.int .u64 a2_1,.int .u64 a2_2,.string a2_3,.string a2_4] 112 (0,0)) (by (with_reducible repeat (first | refine blk_drewN ?_ _ | refine blk_drew ?_ | refine blk_alloc ?_ _));refine blk_far ?_ NB219_221.out _;(with_reducible repeat (first | refine blk_drewN ?_ _ | refine blk_drew ?_ | refine blk_alloc ?_ _));refine blk_far ?_ NB219_221.out _;(with_reducible repeat (first | refine blk_drewN ?_ _ | refine blk_drew ?_ | refine blk_alloc ?_ _));refine blk_far ?_ NB219_221.out _;(with_reducible repeat (first | refine blk_drewN ?_ _ | refine blk_drew ?_ | refine blk_alloc ?_ _));refine blk_far ?_ NB219_221.out _;(with_reducible repeat (first | refine blk_drewN ?_ _ | refine blk_drew ?_ | refine blk_alloc ?_ _));refine blk_far ?_ NB219_221.out _;(with_reducible repeat (first | refine blk_drewN ?_ _ | refine blk_drew ?_ | refine blk_alloc ?_ _));exact BK219.out) hb);have n2_:=Aside0.mk (blk_below (g:=gb221) (o:=.cells #[.int .u64 ((rd_T112 l1 x13_1).f0),.int .u64 ((rd_T112 l1 x13_1).f1),.int .u64 ((rd_T112 l1 x13_1).f2),.string ((rd_T112 l1 x13_1).f3),.string ((rd_T112 l1 x13_1).f4)] 112 (0,0)) (by (with_reducible repeat (first | refine blk_drewN ?_ _ | refine blk_drew ?_ | refine blk_alloc ?_ _));refine blk_put (cs:=#[.int .u64 ((rd_T112 l1 x13_1).f0),.int .u64 ((rd_T112 l1 x13_1).f1),.int .u64 ((rd_T112 l1 x13_1).f2),.string ((rd_T112 l1 x13_1).f3),.string (⟨#[]⟩:ByteArray)]) ?_ 4 _ rfl;(with_reducible repeat (first | refine blk_drewN ?_ _ | refine blk_drew ?_ | refine blk_alloc ?_ _));refine blk_put (cs:=#[.int .u64 ((rd_T112 l1 x13_1).f0),.int .u64 ((rd_T112 l1 x13_1).f1),.int .u64 ((rd_T112 l1 x13_1).f2),.string (⟨#[]⟩:ByteArray),.string (⟨#[]⟩:ByteArray)]) ?_ 3 _ rfl;(with_reducible repeat (first | refine blk_drewN ?_ _ | refine blk_drew ?_ | refine blk_alloc ?_ _));refine blk_put (cs:=#[.int .u64 ((rd_T112 l1 x13_1).f0),.int .u64 ((rd_T112 l1 x13_1).f1),.int .u64 0,.string (⟨#[]⟩:ByteArray),.string (⟨#[]⟩:ByteArray)]) ?_ 2 _ rfl;(with_reducible repeat (first | refine blk_drewN ?_ _ | refine blk_drew ?_ | refine blk_alloc ?_ _));refine blk_put (cs:=#[.int .u64 ((rd_T112 l1 x13_1).f0),.int .u64 0,.int .u64 0,.string (⟨#[]⟩:ByteArray),.string (⟨#[]⟩:ByteArray)]) ?_ 1 _ rfl;(with_reducible repeat (first | refine blk_drewN ?_ _ | refine blk_drew ?_ | refine blk_alloc ?_ _));refine blk_put (cs:=#[.int .u64 0,.int .u64 0,.int .u64 0,.string (⟨#[]⟩:ByteArray),.string (⟨#[]⟩:ByteArray)]) ?_ 0 _ rfl;(with_reducible repeat (first | refine blk_drewN ?_ _ | refine blk_drew ?_ | refine blk_alloc ?_ _));exact BK221.out) hb);have n3_:=Aside0.mk (below_step (by repeat (first | (with_reducible first | exact HB.out | apply below_alloc | apply pw_below_drewN | apply below_drew1 | refine below_set ?_ GE219.out | refine below_set ?_ GE221.out) | exact HB.out)) hb);clear HO_7;clear BK219;clear BK221;clear HB;have HO_7:=n0_;have BK219:=n1_;have BK221:=n2_;have HB:=n3_;clear n0_ n1_ n2_ n3_;(try clear hb);(try clear hb2);(try clear hk);(try clear hi);have hcz23_0:w22.cell? ⟨gb219,0,none⟩ = some (.int .u64 a2_0):=(blk_cell BK219.out 0).trans rfl;have hcz23_1:w22.cell? ⟨gb219,1,none⟩ = some (.int .u64 a2_1):=(blk_cell BK219.out 1).trans rfl;have hcz23_2:w22.cell? ⟨gb219,2,none⟩ = some (.int .u64 a2_2):=(blk_cell BK219.out 2).trans rfl;have hcz23_3:w22.cell? ⟨gb219,3,none⟩ = some (.string a2_3):=(blk_cell BK219.out 3).trans rfl;have hcz23_4:w22.cell? ⟨gb219,4,none⟩ = some (.string a2_4):=(blk_cell BK219.out 4).trans rfl;have hfz23_0:=blk_frozen BK219.out 0;have hfz23_1:=blk_frozen BK219.out 1;have hfz23_2:=blk_frozen BK219.out 2;have hfz23_3:=blk_frozen BK219.out 3;have hfz23_4:=blk_frozen BK219.out 4) | ((with_reducible refine gate_builtin (b:=.append) (xs:=#[.tmp 25,.tmp 27]) rfl ?_);at_builtin;refine Kd.R_append k112 (w0:=w) w.heap.size rfl (.tmp 25) (.tmp 27) 80 112 (.agg #[(.int .u64 0),(.int .u64 0),(.int .u64 0),(.string ⟨#[]⟩),(.string ⟨#[]⟩)]) 56 rfl Tryd.underlying80 info112 rfl (by decide) (by omega) u7 x7_1 (⟨a2_0,a2_1,a2_2,a2_3,a2_4⟩:S112) [.int .u64 a2_0,.int .u64 a2_1,.int .u64 a2_2,.string a2_3,.string a2_4] (fun k_=>k_ ≠ gb219 ∧ k_ ≠ gb221) (fun _=>False) rfl rfl ?aP (fun _ hk=>hk.elim) ?aF ?aO ?aB ?aS ?aL ?_;(case aP=>exact k112_mkM _ _ _ (⟨a2_0,a2_1,a2_2,a2_3,a2_4⟩:S112));(case aB=>exact (by repeat (first | (with_reducible first | exact HB.out | apply below_alloc | apply pw_below_drewN | apply below_drew1 | refine below_set ?_ GE219.out | refine below_set ?_ GE221.out) | exact HB.out)));(case aF=>exact (fun k_ hk=>⟨Kd.freshB (g:=gb219) (o:=.cells #[.int .u64 a2_0,.int .u64 a2_1,.int .u64 a2_2,.string a2_3,.string a2_4] 112 (0,0)) (by (with_reducible repeat (first | refine blk_drewN ?_ _ | refine blk_drew ?_ | refine blk_alloc ?_ _));exact BK219.out) k_ hk,Kd.freshB (g:=gb221) (o:=.cells #[.int .u64 ((rd_T112 l1 x13_1).f0),.int .u64 ((rd_T112 l1 x13_1).f1),.int .u64 ((rd_T112 l1 x13_1).f2),.string ((rd_T112 l1 x13_1).f3),.string ((rd_T112 l1 x13_1).f4)] 112 (0,0)) (by (with_reducible repeat (first | refine blk_drewN ?_ _ | refine blk_drew ?_ | refine blk_alloc ?_ _));exact BK221.out) k_ hk⟩));(case aO=>exact (by (with_reducible repeat (first | apply Kd.R_alloc | apply Kd.R_drewN | apply Kd.R_drew));exact HO_7.out));(case aS=>exact (below_size (by repeat (first | (with_reducible first | exact HB.out | apply below_alloc | apply pw_below_drewN | apply below_drew1 | refine below_set ?_ GE219.out | refine below_set ?_ GE221.out) | exact HB.out))));(case aL=>have:=LMc16.out;omega);intro v227 w24 ho hb hg hat;rw [← Ny226.out] at ho;have n0_:=Aside0.mk (blk_grown (g:=gb219) (o:=.cells #[.int .u64 a2_0,.int .u64 a2_1,.int .u64 a2_2,.string a2_3,.string a2_4] 112 (0,0)) (by (with_reducible repeat (first | refine blk_drewN ?_ _ | refine blk_drew ?_ | refine blk_alloc ?_ _));exact BK219.out) hg (Kd.R_away HO_7.out (fun _ hk=>hk.1)));have n1_:=Aside0.mk (blk_grown (g:=gb221) (o:=.cells #[.int .u64 ((rd_T112 l1 x13_1).f0),.int .u64 ((rd_T112 l1 x13_1).f1),.int .u64 ((rd_T112 l1 x13_1).f2),.string ((rd_T112 l1 x13_1).f3),.string ((rd_T112 l1 x13_1).f4)] 112 (0,0)) (by (with_reducible repeat (first | refine blk_drewN ?_ _ | refine blk_drew ?_ | refine blk_alloc ?_ _));exact BK221.out) hg (Kd.R_away HO_7.out (fun _ hk=>hk.2)));have n2_:=Aside0.mk (hb);have n3_:=Aside0.mk (ho);clear BK219;clear BK221;clear HB;clear HO_7;have BK219:=n0_;have BK221:=n1_;have HB:=n2_;have HO228:=n3_;clear n0_ n1_ n2_ n3_;clear ho hb hg hat;have hcz25_0:w24.cell? ⟨gb221,0,none⟩ = some (.int .u64 ((rd_T112 l1 x13_1).f0)):=(blk_cell BK221.out 0).trans rfl;have hcz25_1:w24.cell? ⟨gb221,1,none⟩ = some (.int .u64 ((rd_T112 l1 x13_1).f1)):=(blk_cell BK221.out 1).trans rfl;have hcz25_2:w24.cell? ⟨gb221,2,none⟩ = some (.int .u64 ((rd_T112 l1 x13_1).f2)):=(blk_cell BK221.out 2).trans rfl;have hcz25_3:w24.cell? ⟨gb221,3,none⟩ = some (.string ((rd_T112 l1 x13_1).f3)):=(blk_cell BK221.out 3).trans rfl;have hcz25_4:w24.cell? ⟨gb221,4,none⟩ = some (.string ((rd_T112 l1 x13_1).f4)):=(blk_cell BK221.out 4).trans rfl;have hfz25_0:=blk_frozen BK221.out 0;have hfz25_1:=blk_frozen BK221.out 1;have hfz25_2:=blk_frozen BK221.out 2;have hfz25_3:=blk_frozen BK221.out 3;have hfz25_4:=blk_frozen BK221.out 4) | ((with_reducible refine gate_builtin (b:=.append) (xs:=#[.tmp 29,.tmp 31]) rfl ?_);at_builtin;refine Kd.R_append k112 (w0:=w) w.heap.size rfl (.tmp 29) (.tmp 31) 80 112 (.agg #[(.int .u64 0),(.int .u64 0),(.int .u64 0),(.string ⟨#[]⟩),(.string ⟨#[]⟩)]) 56 rfl Tryd.underlying80 info112 rfl (by decide) (by omega) v227 y226 (⟨(rd_T112 l1 x13_1).f0,(rd_T112 l1 x13_1).f1,(rd_T112 l1 x13_1).f2,(rd_T112 l1 x13_1).f3,(rd_T112 l1 x13_1).f4⟩:S112) [.int .u64 ((rd_T112 l1 x13_1).f0),.int .u64 ((rd_T112 l1 x13_1).f1),.int .u64 ((rd_T112 l1 x13_1).f2),.string ((rd_T112 l1 x13_1).f3),.string ((rd_T112 l1 x13_1).f4)] (fun k_=>k_ ≠ gb219 ∧ k_ ≠ gb221) (fun _=>False) rfl rfl ?aP (fun _ hk=>hk.elim) ?aF ?aO ?aB ?aS ?aL ?_;(case aP=>exact k112_mkM _ _ _ (⟨(rd_T112 l1 x13_1).f0,(rd_T112 l1 x13_1).f1,(rd_T112 l1 x13_1).f2,(rd_T112 l1 x13_1).f3,(rd_T112 l1 x13_1).f4⟩:S112));(case aB=>exact (by repeat (first | (with_reducible first | exact HB.out | apply below_alloc | apply pw_below_drewN | apply below_drew1 | refine below_set ?_ GE219.out | refine below_set ?_ GE221.out) | exact HB.out)));(case aF=>exact (fun k_ hk=>⟨Kd.freshB (g:=gb219) (o:=.cells #[.int .u64 a2_0,.int .u64 a2_1,.int .u64 a2_2,.string a2_3,.string a2_4] 112 (0,0)) (by (with_reducible repeat (first | refine blk_drewN ?_ _ | refine blk_drew ?_ | refine blk_alloc ?_ _));exact BK219.out) k_ hk,Kd.freshB (g:=gb221) (o:=.cells #[.int .u64 ((rd_T112 l1 x13_1).f0),.int .u64 ((rd_T112 l1 x13_1).f1),.int .u64 ((rd_T112 l1 x13_1).f2),.string ((rd_T112 l1 x13_1).f3),.string ((rd_T112 l1 x13_1).f4)] 112 (0,0)) (by (with_reducible repeat (first | refine blk_drewN ?_ _ | refine blk_drew ?_ | refine blk_alloc ?_ _));exact BK221.out) k_ hk⟩));(case aO=>exact (by (with_reducible repeat (first | apply Kd.R_alloc | apply Kd.R_drewN | apply Kd.R_drew));exact HO228.out));(case aS=>exact (below_size (by repeat (first | (with_reducible first | exact HB.out | apply below_alloc | apply pw_below_drewN | apply below_drew1 | refine below_set ?_ GE219.out | refine below_set ?_ GE221.out) | exact HB.out))));(case aL=>have:=LMc17.out;omega);intro v230 w26 ho hb hg hat;rw [← Ny229.out] at ho;have n0_:=Aside0.mk (blk_grown (g:=gb219) (o:=.cells #[.int .u64 a2_0,.int .u64 a2_1,.int .u64 a2_2,.string a2_3,.string a2_4] 112 (0,0)) (by (with_reducible repeat (first | refine blk_drewN ?_ _ | refine blk_drew ?_ | refine blk_alloc ?_ _));exact BK219.out) hg (Kd.R_away HO228.out (fun _ hk=>hk.1)));have n1_:=Aside0.mk (blk_grown (g:=gb221) (o:=.cells #[.int .u64 ((rd_T112 l1 x13_1).f0),.int .u64 ((rd_T112 l1 x13_1).f1),.int .u64 ((rd_T112 l1 x13_1).f2),.string ((rd_T112 l1 x13_1).f3),.string ((rd_T112 l1 x13_1).f4)] 112 (0,0)) (by (with_reducible repeat (first | refine blk_drewN ?_ _ | refine blk_drew ?_ | refine blk_alloc ?_ _));exact BK221.out) hg (Kd.R_away HO228.out (fun _ hk=>hk.2)));have n2_:=Aside0.mk (hb);have n3_:=Aside0.mk (ho);clear BK219;clear BK221;clear HB;clear HO228;have BK219:=n0_;have BK221:=n1_;have HB:=n2_;have HO231:=n3_;clear n0_ n1_ n2_ n3_;clear ho hb hg hat))
          go_roundg k1
          case measure=>have:=HK1.out;omega
          case rel=>exact ⟨(y229),(true),(wrap64 (x13_1 + 1)),(by first | rfl | (simp;done) | (simp [*];done)),(by first | rfl | (simp;done) | (simp [*];done)),H',⟨by have:=HK1.out;omega⟩,⟨by (with_reducible repeat (first | apply Kd.R_alloc | apply Kd.R_drewN | apply Kd.R_drew));exact Kd.R_mono HO231.out (fun _ hk=>hk.1)⟩,⟨by (with_reducible repeat (first | refine blk_drewN ?_ _ | refine blk_drew ?_ | refine blk_alloc ?_ _));exact BK219.out⟩,⟨by repeat (first | (with_reducible first | exact HB.out | apply below_alloc | apply pw_below_drewN | apply below_drew1 | refine below_set ?_ GE219.out | refine below_set ?_ GE221.out) | exact HB.out)⟩⟩
         ·rw [if_neg c17] at H
          exact absurd H (by simp)
        ·rw [if_neg c16] at H
         exact absurd H (by simp)
       ·replace c15:=Bool.eq_false_iff.mpr c15
        subst c15
        have H1:(if x7_1.length < 2513169434916 then (bourseref13_with.l0 k1 a0 (x7_1 ++ [(⟨(rd_T112 l1 x13_1).f0,(rd_T112 l1 x13_1).f1,(rd_T112 l1 x13_1).f2,(rd_T112 l1 x13_1).f3,(rd_T112 l1 x13_1).f4⟩:S112)]) false l1 (l1.length:Int) (wrap64 (x13_1 + 1)) a2_0 a2_1 a2_2 a2_3 a2_4) else (none)) = some r:=by rw [if_neg (show ¬ (false = true) by decide)] at H;exact H
        clear H
        have H:=H1
        clear H1
        by_cases c27:x7_1.length < 2513169434916
        ·rw [if_pos c27] at H
         have LMc27:=Aside0.mk c27
         clear c27
         obtain ⟨y232,hy232⟩:∃ y_:List (S112),y_ = (x7_1 ++ [(⟨(rd_T112 l1 x13_1).f0,(rd_T112 l1 x13_1).f1,(rd_T112 l1 x13_1).f2,(rd_T112 l1 x13_1).f3,(rd_T112 l1 x13_1).f4⟩:S112)]):=⟨_,rfl⟩
         replace H:(bourseref13_with.l0 k1 a0 y232 false l1 (l1.length:Int) (wrap64 (x13_1 + 1)) a2_0 a2_1 a2_2 a2_3 a2_4) = some r:=by first | (rw [hy232];with_reducible exact H) | (have H2_:=(Option.bind_some _ _).symm.trans H;rw [hy232];with_reducible exact H2_) | (have H2_:=(Option.bind_some _ _).symm.trans H;with_reducible exact H2_) | with_reducible exact H | (rw [hy232];exact H) | exact H
         have Ny232:=Aside0.mk hy232
         clear hy232
         have H':=Aside0.mk H
         clear H
         have p220:0 ≤ (x13_1:Int):=of_decide_eq_true (by first | (with_reducible assumption) | assumption)
         have q220:x13_1 < (l1.length:Int):=of_decide_eq_true (by first | (with_reducible assumption) | assumption)
         obtain ⟨ad220,e220,hx220_0,hx220_1,hx220_2,hx220_3,hx220_4⟩:=at_T112 HR1.out x13_1 p220 q220
         cases e220
         replace hx220_0:=(HB.out.cell (World.block_lt_of_cell? w _ hx220_0)).trans hx220_0
         replace hx220_1:=(HB.out.cell (World.block_lt_of_cell? w _ hx220_1)).trans hx220_1
         replace hx220_2:=(HB.out.cell (World.block_lt_of_cell? w _ hx220_2)).trans hx220_2
         replace hx220_3:=(HB.out.cell (World.block_lt_of_cell? w _ hx220_3)).trans hx220_3
         replace hx220_4:=(HB.out.cell (World.block_lt_of_cell? w _ hx220_4)).trans hx220_4
         replace p220:=eq_true p220
         replace q220:=eq_true q220
         go_wp2_with (first | ((with_reducible refine gate_dst (N:=10) rfl ?_);refine box_event ?hg (N:=10) ?hd (cs:=#[.int .u64 0,.int .u64 0,.int .u64 0,.string (⟨#[]⟩:ByteArray),.string (⟨#[]⟩:ByteArray)]) (t:=112) ?hr ?_;(case hd=>rfl);(case hg=>rfl);(case hr=>first | (go_simp;done) | (go_simp;rfl));intro gb221 hg w28 hbox hb;have n0_:=Aside0.mk (Kd.R_below (Kd.R_elderB (by (with_reducible repeat (first | apply Kd.R_alloc | apply Kd.R_drewN | apply Kd.R_drew));exact HO_7.out) gb221 (Nat.le_of_eq hg.symm)) hb);have n1_:=Aside0.mk (blk_below (g:=gb219) (o:=.cells #[.int .u64 a2_0,.int .u64 a2_1,.int .u64 a2_2,.string a2_3,.string a2_4] 112 (0,0)) (by (with_reducible repeat (first | refine blk_drewN ?_ _ | refine blk_drew ?_ | refine blk_alloc ?_ _));exact BK219.out) hb);have n2_:=Aside0.mk (below_step (by repeat (first | (with_reducible first | exact HB.out | apply below_alloc | apply pw_below_drewN | apply below_drew1 | refine below_set ?_ GE219.out) | exact HB.out)) hb);have n3_:=Aside0.mk (hbox);have n4_:=Aside0.mk ((by rw [hg];exact (below_size (by repeat (first | (with_reducible first | exact HB.out | apply below_alloc | apply pw_below_drewN | apply below_drew1 | refine below_set ?_ GE219.out) | exact HB.out))):w.heap.size ≤ gb221));have n5_:=Aside0.mk ((by rw [hg];exact (below_size (by repeat (first | (with_reducible first | exact HB.out | apply below_alloc | apply pw_below_drewN | apply below_drew1 | refine below_set ?_ GE219.out) | exact HB.out))):w.heap.size ≤ gb221));have n6_:=Aside0.mk ((by rw [hg];exact Nat.ne_of_lt (blk_lt (g:=gb219) (o:=.cells #[.int .u64 a2_0,.int .u64 a2_1,.int .u64 a2_2,.string a2_3,.string a2_4] 112 (0,0)) (by (with_reducible repeat (first | refine blk_drewN ?_ _ | refine blk_drew ?_ | refine blk_alloc ?_ _));exact BK219.out)):gb219 ≠ gb221));have n7_:=Aside0.mk ((by rw [hg];exact Nat.ne_of_gt (blk_lt (g:=gb219) (o:=.cells #[.int .u64 a2_0,.int .u64 a2_1,.int .u64 a2_2,.string a2_3,.string a2_4] 112 (0,0)) (by (with_reducible repeat (first | refine blk_drewN ?_ _ | refine blk_drew ?_ | refine blk_alloc ?_ _));exact BK219.out)):gb221 ≠ gb219));clear HO_7;clear BK219;clear HB;have HO_7:=n0_;have BK219:=n1_;have HB:=n2_;have BK221:=n3_;have GW221:=n4_;have GE221:=n5_;have NB219_221:=n6_;have NB221_219:=n7_;clear n0_ n1_ n2_ n3_ n4_ n5_ n6_ n7_;clear hb hbox hg;have hnb29:=NB221_219.out;have hnc29:=NB219_221.out;have hcz30_0:w28.cell? ⟨gb221,0,none⟩ = some (.int .u64 0):=(blk_cell BK221.out 0).trans rfl;have hcz30_1:w28.cell? ⟨gb221,1,none⟩ = some (.int .u64 0):=(blk_cell BK221.out 1).trans rfl;have hcz30_2:w28.cell? ⟨gb221,2,none⟩ = some (.int .u64 0):=(blk_cell BK221.out 2).trans rfl;have hcz30_3:w28.cell? ⟨gb221,3,none⟩ = some (.string (⟨#[]⟩:ByteArray)):=(blk_cell BK221.out 3).trans rfl;have hcz30_4:w28.cell? ⟨gb221,4,none⟩ = some (.string (⟨#[]⟩:ByteArray)):=(blk_cell BK221.out 4).trans rfl;have hfz30_0:=blk_frozen BK221.out 0;have hfz30_1:=blk_frozen BK221.out 1;have hfz30_2:=blk_frozen BK221.out 2;have hfz30_3:=blk_frozen BK221.out 3;have hfz30_4:=blk_frozen BK221.out 4;have hcz31_0:w28.cell? ⟨gb219,0,none⟩ = some (.int .u64 a2_0):=(blk_cell BK219.out 0).trans rfl;have hcz31_1:w28.cell? ⟨gb219,1,none⟩ = some (.int .u64 a2_1):=(blk_cell BK219.out 1).trans rfl;have hcz31_2:w28.cell? ⟨gb219,2,none⟩ = some (.int .u64 a2_2):=(blk_cell BK219.out 2).trans rfl;have hcz31_3:w28.cell? ⟨gb219,3,none⟩ = some (.string a2_3):=(blk_cell BK219.out 3).trans rfl;have hcz31_4:w28.cell? ⟨gb219,4,none⟩ = some (.string a2_4):=(blk_cell BK219.out 4).trans rfl;have hfz31_0:=blk_frozen BK219.out 0;have hfz31_1:=blk_frozen BK219.out 1;have hfz31_2:=blk_frozen BK219.out 2;have hfz31_3:=blk_frozen BK219.out 3;have hfz31_4:=blk_frozen BK219.out 4) | (go_at_call 98;(with_reducible refine (bourseref13_ahead.calls a0 a2_0 a2_1 a2_2 a2_3 a2_4 ((rd_T112 l1 x13_1).f0) ((rd_T112 l1 x13_1).f1) ((rd_T112 l1 x13_1).f2) ((rd_T112 l1 x13_1).f3) ((rd_T112 l1 x13_1).f4) false _ A14.out).mono ?_);rintro e w32 ⟨rfl,hb⟩;have n0_:=Aside0.mk (Kd.R_below (by (with_reducible repeat (first | apply Kd.R_alloc | apply Kd.R_drewN | apply Kd.R_drew));exact (Kd.R_mono (Kd.R_far (p:=⟨gb221,4,none⟩) (Kd.R_far (p:=⟨gb221,3,none⟩) (Kd.R_far (p:=⟨gb221,2,none⟩) (Kd.R_far (p:=⟨gb221,1,none⟩) (Kd.R_far (p:=⟨gb221,0,none⟩) (Kd.R_mono HO_7.out (fun k_ hk=>(⟨hk,hk.2⟩:_ ∧ k_ ≠ gb221))) (fun _ hk=>hk.2) (.int .u64 ((rd_T112 l1 x13_1).f0))) (fun _ hk=>hk.2) (.int .u64 ((rd_T112 l1 x13_1).f1))) (fun _ hk=>hk.2) (.int .u64 ((rd_T112 l1 x13_1).f2))) (fun _ hk=>hk.2) (.string ((rd_T112 l1 x13_1).f3))) (fun _ hk=>hk.2) (.string ((rd_T112 l1 x13_1).f4))) (fun _ h_=>h_.1))) hb);have n1_:=Aside0.mk (blk_below (g:=gb219) (o:=.cells #[.int .u64 a2_0,.int .u64 a2_1,.int .u64 a2_2,.string a2_3,.string a2_4] 112 (0,0)) (by (with_reducible repeat (first | refine blk_drewN ?_ _ | refine blk_drew ?_ | refine blk_alloc ?_ _));refine blk_far ?_ NB219_221.out _;(with_reducible repeat (first | refine blk_drewN ?_ _ | refine blk_drew ?_ | refine blk_alloc ?_ _));refine blk_far ?_ NB219_221.out _;(with_reducible repeat (first | refine blk_drewN ?_ _ | refine blk_drew ?_ | refine blk_alloc ?_ _));refine blk_far ?_ NB219_221.out _;(with_reducible repeat (first | refine blk_drewN ?_ _ | refine blk_drew ?_ | refine blk_alloc ?_ _));refine blk_far ?_ NB219_221.out _;(with_reducible repeat (first | refine blk_drewN ?_ _ | refine blk_drew ?_ | refine blk_alloc ?_ _));refine blk_far ?_ NB219_221.out _;(with_reducible repeat (first | refine blk_drewN ?_ _ | refine blk_drew ?_ | refine blk_alloc ?_ _));exact BK219.out) hb);have n2_:=Aside0.mk (blk_below (g:=gb221) (o:=.cells #[.int .u64 ((rd_T112 l1 x13_1).f0),.int .u64 ((rd_T112 l1 x13_1).f1),.int .u64 ((rd_T112 l1 x13_1).f2),.string ((rd_T112 l1 x13_1).f3),.string ((rd_T112 l1 x13_1).f4)] 112 (0,0)) (by (with_reducible repeat (first | refine blk_drewN ?_ _ | refine blk_drew ?_ | refine blk_alloc ?_ _));refine blk_put (cs:=#[.int .u64 ((rd_T112 l1 x13_1).f0),.int .u64 ((rd_T112 l1 x13_1).f1),.int .u64 ((rd_T112 l1 x13_1).f2),.string ((rd_T112 l1 x13_1).f3),.string (⟨#[]⟩:ByteArray)]) ?_ 4 _ rfl;(with_reducible repeat (first | refine blk_drewN ?_ _ | refine blk_drew ?_ | refine blk_alloc ?_ _));refine blk_put (cs:=#[.int .u64 ((rd_T112 l1 x13_1).f0),.int .u64 ((rd_T112 l1 x13_1).f1),.int .u64 ((rd_T112 l1 x13_1).f2),.string (⟨#[]⟩:ByteArray),.string (⟨#[]⟩:ByteArray)]) ?_ 3 _ rfl;(with_reducible repeat (first | refine blk_drewN ?_ _ | refine blk_drew ?_ | refine blk_alloc ?_ _));refine blk_put (cs:=#[.int .u64 ((rd_T112 l1 x13_1).f0),.int .u64 ((rd_T112 l1 x13_1).f1),.int .u64 0,.string (⟨#[]⟩:ByteArray),.string (⟨#[]⟩:ByteArray)]) ?_ 2 _ rfl;(with_reducible repeat (first | refine blk_drewN ?_ _ | refine blk_drew ?_ | refine blk_alloc ?_ _));refine blk_put (cs:=#[.int .u64 ((rd_T112 l1 x13_1).f0),.int .u64 0,.int .u64 0,.string (⟨#[]⟩:ByteArray),.string (⟨#[]⟩:ByteArray)]) ?_ 1 _ rfl;(with_reducible repeat (first | refine blk_drewN ?_ _ | refine blk_drew ?_ | refine blk_alloc ?_ _));refine blk_put (cs:=#[.int .u64 0,.int .u64 0,.int .u64 0,.string (⟨#[]⟩:ByteArray),.string (⟨#[]⟩:ByteArray)]) ?_ 0 _ rfl;(with_reducible repeat (first | refine blk_drewN ?_ _ | refine blk_drew ?_ | refine blk_alloc ?_ _));exact BK221.out) hb);have n3_:=Aside0.mk (below_step (by repeat (first | (with_reducible first | exact HB.out | apply below_alloc | apply pw_below_drewN | apply below_drew1 | refine below_set ?_ GE219.out | refine below_set ?_ GE221.out) | exact HB.out)) hb);clear HO_7;clear BK219;clear BK221;clear HB;have HO_7:=n0_;have BK219:=n1_;have BK221:=n2_;have HB:=n3_;clear n0_ n1_ n2_ n3_;(try clear hb);(try clear hb2);(try clear hk);(try clear hi);have hcz33_0:w32.cell? ⟨gb221,0,none⟩ = some (.int .u64 ((rd_T112 l1 x13_1).f0)):=(blk_cell BK221.out 0).trans rfl;have hcz33_1:w32.cell? ⟨gb221,1,none⟩ = some (.int .u64 ((rd_T112 l1 x13_1).f1)):=(blk_cell BK221.out 1).trans rfl;have hcz33_2:w32.cell? ⟨gb221,2,none⟩ = some (.int .u64 ((rd_T112 l1 x13_1).f2)):=(blk_cell BK221.out 2).trans rfl;have hcz33_3:w32.cell? ⟨gb221,3,none⟩ = some (.string ((rd_T112 l1 x13_1).f3)):=(blk_cell BK221.out 3).trans rfl;have hcz33_4:w32.cell? ⟨gb221,4,none⟩ = some (.string ((rd_T112 l1 x13_1).f4)):=(blk_cell BK221.out 4).trans rfl;have hfz33_0:=blk_frozen BK221.out 0;have hfz33_1:=blk_frozen BK221.out 1;have hfz33_2:=blk_frozen BK221.out 2;have hfz33_3:=blk_frozen BK221.out 3;have hfz33_4:=blk_frozen BK221.out 4) | ((with_reducible refine gate_builtin (b:=.append) (xs:=#[.tmp 29,.tmp 31]) rfl ?_);at_builtin;refine Kd.R_append k112 (w0:=w) w.heap.size rfl (.tmp 29) (.tmp 31) 80 112 (.agg #[(.int .u64 0),(.int .u64 0),(.int .u64 0),(.string ⟨#[]⟩),(.string ⟨#[]⟩)]) 56 rfl Tryd.underlying80 info112 rfl (by decide) (by omega) u7 x7_1 (⟨(rd_T112 l1 x13_1).f0,(rd_T112 l1 x13_1).f1,(rd_T112 l1 x13_1).f2,(rd_T112 l1 x13_1).f3,(rd_T112 l1 x13_1).f4⟩:S112) [.int .u64 ((rd_T112 l1 x13_1).f0),.int .u64 ((rd_T112 l1 x13_1).f1),.int .u64 ((rd_T112 l1 x13_1).f2),.string ((rd_T112 l1 x13_1).f3),.string ((rd_T112 l1 x13_1).f4)] (fun k_=>k_ ≠ gb219 ∧ k_ ≠ gb221) (fun _=>False) rfl rfl ?aP (fun _ hk=>hk.elim) ?aF ?aO ?aB ?aS ?aL ?_;(case aP=>exact k112_mkM _ _ _ (⟨(rd_T112 l1 x13_1).f0,(rd_T112 l1 x13_1).f1,(rd_T112 l1 x13_1).f2,(rd_T112 l1 x13_1).f3,(rd_T112 l1 x13_1).f4⟩:S112));(case aB=>exact (by repeat (first | (with_reducible first | exact HB.out | apply below_alloc | apply pw_below_drewN | apply below_drew1 | refine below_set ?_ GE219.out | refine below_set ?_ GE221.out) | exact HB.out)));(case aF=>exact (fun k_ hk=>⟨Kd.freshB (g:=gb219) (o:=.cells #[.int .u64 a2_0,.int .u64 a2_1,.int .u64 a2_2,.string a2_3,.string a2_4] 112 (0,0)) (by (with_reducible repeat (first | refine blk_drewN ?_ _ | refine blk_drew ?_ | refine blk_alloc ?_ _));exact BK219.out) k_ hk,Kd.freshB (g:=gb221) (o:=.cells #[.int .u64 ((rd_T112 l1 x13_1).f0),.int .u64 ((rd_T112 l1 x13_1).f1),.int .u64 ((rd_T112 l1 x13_1).f2),.string ((rd_T112 l1 x13_1).f3),.string ((rd_T112 l1 x13_1).f4)] 112 (0,0)) (by (with_reducible repeat (first | refine blk_drewN ?_ _ | refine blk_drew ?_ | refine blk_alloc ?_ _));exact BK221.out) k_ hk⟩));(case aO=>exact (by (with_reducible repeat (first | apply Kd.R_alloc | apply Kd.R_drewN | apply Kd.R_drew));exact HO_7.out));(case aS=>exact (below_size (by repeat (first | (with_reducible first | exact HB.out | apply below_alloc | apply pw_below_drewN | apply below_drew1 | refine below_set ?_ GE219.out | refine below_set ?_ GE221.out) | exact HB.out))));(case aL=>have:=LMc27.out;omega);intro v233 w34 ho hb hg hat;rw [← Ny232.out] at ho;have n0_:=Aside0.mk (blk_grown (g:=gb219) (o:=.cells #[.int .u64 a2_0,.int .u64 a2_1,.int .u64 a2_2,.string a2_3,.string a2_4] 112 (0,0)) (by (with_reducible repeat (first | refine blk_drewN ?_ _ | refine blk_drew ?_ | refine blk_alloc ?_ _));exact BK219.out) hg (Kd.R_away HO_7.out (fun _ hk=>hk.1)));have n1_:=Aside0.mk (blk_grown (g:=gb221) (o:=.cells #[.int .u64 ((rd_T112 l1 x13_1).f0),.int .u64 ((rd_T112 l1 x13_1).f1),.int .u64 ((rd_T112 l1 x13_1).f2),.string ((rd_T112 l1 x13_1).f3),.string ((rd_T112 l1 x13_1).f4)] 112 (0,0)) (by (with_reducible repeat (first | refine blk_drewN ?_ _ | refine blk_drew ?_ | refine blk_alloc ?_ _));exact BK221.out) hg (Kd.R_away HO_7.out (fun _ hk=>hk.2)));have n2_:=Aside0.mk (hb);have n3_:=Aside0.mk (ho);clear BK219;clear BK221;clear HB;clear HO_7;have BK219:=n0_;have BK221:=n1_;have HB:=n2_;have HO234:=n3_;clear n0_ n1_ n2_ n3_;clear ho hb hg hat))
         go_roundg k1
         case measure=>have:=HK1.out;omega
         case rel=>exact ⟨(y232),(false),(wrap64 (x13_1 + 1)),(by first | rfl | (simp;done) | (simp [*];done)),(by first | rfl | (simp;done) | (simp [*];done)),H',⟨by have:=HK1.out;omega⟩,⟨by (with_reducible repeat (first | apply Kd.R_alloc | apply Kd.R_drewN | apply Kd.R_drew));exact Kd.R_mono HO234.out (fun _ hk=>hk.1)⟩,⟨by (with_reducible repeat (first | refine blk_drewN ?_ _ | refine blk_drew ?_ | refine blk_alloc ?_ _));exact BK219.out⟩,⟨by repeat (first | (with_reducible first | exact HB.out | apply below_alloc | apply pw_below_drewN | apply below_drew1 | refine below_set ?_ GE219.out | refine below_set ?_ GE221.out) | exact HB.out)⟩⟩
        ·rw [if_neg c27] at H
         exact absurd H (by simp)
     ·rw [if_neg c7] at H
      exact absurd H (by simp)
    ·rw [if_neg c6] at H
     exact absurd H (by simp)
   ·rw [if_neg c5] at H
    have c5b0:decide (x13_1 < (l1.length:Int)) = false:=decide_eq_false c5
    clear c5
    by_cases c35:x8_1 = true
    ·subst c35
     have H1:(some x7_1) = some r:=by rw [if_pos rfl] at H;exact H
     clear H
     have H:=H1
     clear H1
     obtain rfl:=Option.some.inj H
     go_wp2
     go_ret
     exact ⟨_,by first | rfl | (simp [errW_none,errW_some] <;> rfl) | (simp [*,errW_none,errW_some] <;> rfl),by (with_reducible repeat (first | apply Kd.R_alloc | apply Kd.R_drewN | apply Kd.R_drew));exact Kd.R_mono HO_7.out (fun _ hk=>trivial),by repeat (first | (with_reducible first | exact HB.out | apply below_alloc | apply pw_below_drewN | apply below_drew1 | refine below_set ?_ GE219.out) | exact HB.out)⟩
    ·replace c35:=Bool.eq_false_iff.mpr c35
     subst c35
     have H1:(if x7_1.length < 2513169434916 then (some (x7_1 ++ [(⟨a2_0,a2_1,a2_2,a2_3,a2_4⟩:S112)])) else (none)) = some r:=by rw [if_neg (show ¬ (false = true) by decide)] at H;exact H
     clear H
     have H:=H1
     clear H1
     by_cases c36:x7_1.length < 2513169434916
     ·rw [if_pos c36] at H
      have LMc36:=Aside0.mk c36
      clear c36
      obtain ⟨y235,hy235⟩:∃ y_:List (S112),y_ = (x7_1 ++ [(⟨a2_0,a2_1,a2_2,a2_3,a2_4⟩:S112)]):=⟨_,rfl⟩
      replace H:(some y235) = some r:=by first | (rw [hy235];with_reducible exact H) | (have H2_:=(Option.bind_some _ _).symm.trans H;rw [hy235];with_reducible exact H2_) | (have H2_:=(Option.bind_some _ _).symm.trans H;with_reducible exact H2_) | with_reducible exact H | (rw [hy235];exact H) | exact H
      have Ny235:=Aside0.mk hy235
      clear hy235
      obtain rfl:=Option.some.inj H
      have hcz37_0:wr.cell? ⟨gb219,0,none⟩ = some (.int .u64 a2_0):=(blk_cell BK219.out 0).trans rfl
      have hcz37_1:wr.cell? ⟨gb219,1,none⟩ = some (.int .u64 a2_1):=(blk_cell BK219.out 1).trans rfl
      have hcz37_2:wr.cell? ⟨gb219,2,none⟩ = some (.int .u64 a2_2):=(blk_cell BK219.out 2).trans rfl
      have hcz37_3:wr.cell? ⟨gb219,3,none⟩ = some (.string a2_3):=(blk_cell BK219.out 3).trans rfl
      have hcz37_4:wr.cell? ⟨gb219,4,none⟩ = some (.string a2_4):=(blk_cell BK219.out 4).trans rfl
      have hfz37_0:=blk_frozen BK219.out 0
      have hfz37_1:=blk_frozen BK219.out 1
      have hfz37_2:=blk_frozen BK219.out 2
      have hfz37_3:=blk_frozen BK219.out 3
      have hfz37_4:=blk_frozen BK219.out 4
      go_wp2_with (first | ((with_reducible refine gate_builtin (b:=.append) (xs:=#[.tmp 36,.tmp 38]) rfl ?_);at_builtin;refine Kd.R_append k112 (w0:=w) w.heap.size rfl (.tmp 36) (.tmp 38) 80 112 (.agg #[(.int .u64 0),(.int .u64 0),(.int .u64 0),(.string ⟨#[]⟩),(.string ⟨#[]⟩)]) 56 rfl Tryd.underlying80 info112 rfl (by decide) (by omega) u7 x7_1 (⟨a2_0,a2_1,a2_2,a2_3,a2_4⟩:S112) [.int .u64 a2_0,.int .u64 a2_1,.int .u64 a2_2,.string a2_3,.string a2_4] (fun k_=>k_ ≠ gb219) (fun _=>False) rfl rfl ?aP (fun _ hk=>hk.elim) ?aF ?aO ?aB ?aS ?aL ?_;(case aP=>exact k112_mkM _ _ _ (⟨a2_0,a2_1,a2_2,a2_3,a2_4⟩:S112));(case aB=>exact (by repeat (first | (with_reducible first | exact HB.out | apply below_alloc | apply pw_below_drewN | apply below_drew1 | refine below_set ?_ GE219.out) | exact HB.out)));(case aF=>exact (fun k_ hk=>Kd.freshB (g:=gb219) (o:=.cells #[.int .u64 a2_0,.int .u64 a2_1,.int .u64 a2_2,.string a2_3,.string a2_4] 112 (0,0)) (by (with_reducible repeat (first | refine blk_drewN ?_ _ | refine blk_drew ?_ | refine blk_alloc ?_ _));exact BK219.out) k_ hk));(case aO=>exact (by (with_reducible repeat (first | apply Kd.R_alloc | apply Kd.R_drewN | apply Kd.R_drew));exact HO_7.out));(case aS=>exact (below_size (by repeat (first | (with_reducible first | exact HB.out | apply below_alloc | apply pw_below_drewN | apply below_drew1 | refine below_set ?_ GE219.out) | exact HB.out))));(case aL=>have:=LMc36.out;omega);intro v236 w38 ho hb hg hat;rw [← Ny235.out] at ho;have n0_:=Aside0.mk (blk_grown (g:=gb219) (o:=.cells #[.int .u64 a2_0,.int .u64 a2_1,.int .u64 a2_2,.string a2_3,.string a2_4] 112 (0,0)) (by (with_reducible repeat (first | refine blk_drewN ?_ _ | refine blk_drew ?_ | refine blk_alloc ?_ _));exact BK219.out) hg (Kd.R_away HO_7.out (fun _ hk=>hk)));have n1_:=Aside0.mk (hb);have n2_:=Aside0.mk (ho);clear BK219;clear HB;clear HO_7;have BK219:=n0_;have HB:=n1_;have HO237:=n2_;clear n0_ n1_ n2_;clear ho hb hg hat))
      go_ret
      exact ⟨_,by first | rfl | (simp [errW_none,errW_some] <;> rfl) | (simp [*,errW_none,errW_some] <;> rfl),by (with_reducible repeat (first | apply Kd.R_alloc | apply Kd.R_drewN | apply Kd.R_drew));exact Kd.R_mono HO237.out (fun _ hk=>trivial),by repeat (first | (with_reducible first | exact HB.out | apply below_alloc | apply pw_below_drewN | apply below_drew1 | refine below_set ?_ GE219.out) | exact HB.out)⟩
     ·rw [if_neg c36] at H
      exact absurd H (by simp)
end Go.Proofs.YteilnbnnhocciaaDoor.KV

/-! KV3 -/
namespace Go.Proofs.YteilnbnnhocciaaDoor.KV
open Go.RowKit Go.Proofs.YteilnbnnhocciaaDoorW.PrintWords Go.Proofs.YteilnbnnhocciaaDoorW.PrintLast Go.Proofs.YteilnbnnhocciaaDoorW.PrintMore Go.Proofs.YteilnbnnhocciaaDoorM
attribute [local go_sem] max2_int min2_int max_two min_two max_three min_three max_four min_four
theorem eqA112 (d:Nat) (w:World) (x0 y0:Int) (x1 y1:Int) (x2 y2:Int) (x3 y3:ByteArray) (x4 y4:ByteArray) :
  (Op.equalIn (d + 2) 112 (.agg #[.int .u64 x0,.int .u64 x1,.int .u64 x2,.string x3,.string x4]) (.agg #[.int .u64 y0,.int .u64 y1,.int .u64 y2,.string y3,.string y4])).run Tryd.prog w = .ok (x0 == y0 && (x1 == y1 && (x2 == y2 && (x3.toList == y3.toList && (x4.toList == y4.toList))))) w:=by
 refine eqA_of Tryd.underlying112 (by kernel_rfl) ?_
 refine eqf_cons (by rfl) (by go_simp;rfl) (by go_simp;rfl) (by go_simp) ?_
 refine eqf_cons (by rfl) (by go_simp;rfl) (by go_simp;rfl) (by go_simp) ?_
 refine eqf_cons (by rfl) (by go_simp;rfl) (by go_simp;rfl) (by go_simp) ?_
 refine eqf_cons (by rfl) (by go_simp;rfl) (by go_simp;rfl) (by go_simp) ?_
 exact eqf_last (by rfl) (by go_simp;rfl) (by go_simp;rfl) (by go_simp)
end Go.Proofs.YteilnbnnhocciaaDoor.KV

/-! KV58 -/
namespace Go.Proofs.YteilnbnnhocciaaDoor.KV
open Go.RowKit Go.Proofs.YteilnbnnhocciaaDoorW.PrintWords Go.Proofs.YteilnbnnhocciaaDoorW.PrintLast Go.Proofs.YteilnbnnhocciaaDoorW.PrintMore Go.Proofs.YteilnbnnhocciaaDoorM
attribute [local go_sem] max2_int min2_int max_two min_two max_three min_three max_four min_four
attribute [local go_sem high] eqA112
def bourseref13_Same.l0:Nat → List (S112) → List (S112) → Int → Int → Option (Bool)
 | 0,_,_,_,_=>none
 | k + 1,x0,x1,x12,x13=>if x13 < x12 then (if 0 ≤ x13 then (if x13 < (x0.length:Int) then (if x13 < (x1.length:Int) then (if (!(((rd_T112 x0 x13).f0) == ((rd_T112 x1 x13).f0)) || (!(((rd_T112 x0 x13).f1) == ((rd_T112 x1 x13).f1)) || (!(((rd_T112 x0 x13).f2) == ((rd_T112 x1 x13).f2)) || (!((((rd_T112 x0 x13).f3).toList) == (((rd_T112 x1 x13).f3).toList)) || (!((((rd_T112 x0 x13).f4).toList) == (((rd_T112 x1 x13).f4).toList))))))) = true then (some false) else (bourseref13_Same.l0 k x0 x1 x12 (wrap64 (x13 + 1)))) else (none)) else (none)) else (none)) else (some true)
def bourseref13_Same.f (k:Nat) (l0:List (S112)) (l1:List (S112)):Option (Bool):=if (l0.length:Int) = (l1.length:Int) then (bourseref13_Same.l0 k l0 l1 (l0.length:Int) 0) else (some false)
set_option maxHeartbeats 8000000 in
set_option maxRecDepth 100000 in
theorem bourseref13_Same.calls (k:Nat) (A0:Option Addr) (c0:Nat) (l0:List (S112)) (A1:Option Addr) (c1:Nat) (l1:List (S112)) (r:Bool) (w:World) (hr0:Kd.C k112 w A0 l0.length l0) (hc0:l0.length ≤ c0) (hr1:Kd.C k112 w A1 l1.length l1) (hc1:l1.length ≤ c1) (h:bourseref13_Same.f k l0 l1 = some r) :
  Calls Tryd.prog 42 #[.slice A0 l0.length c0,.slice A1 l1.length c1] w fun e w'=>e = .returned (.bool r) ∧ Drawn0 w w':=by
 have hu112:=Tryd.underlying112
 have HR0:=Aside0.mk hr0
 have HC0:=Aside0.mk hc0
 clear hr0 hc0
 have HR1:=Aside0.mk hr1
 have HC1:=Aside0.mk hc1
 clear hr1 hc1
 have H:(if (l0.length:Int) = (l1.length:Int) then (bourseref13_Same.l0 k l0 l1 (l0.length:Int) 0) else (some false)) = some r:=h
 clear h
 by_cases c3:(l0.length:Int) = (l1.length:Int)
 ·rw [if_pos c3] at H
  have c3b0:((l0.length:Int) == (l1.length:Int)) = true:=beq_iff_eq.mpr c3
  have c3b1:((l0.length:Int) != (l1.length:Int)) = false:=bne_eq_false_iff_eq.mpr c3
  have c3b2:(l0.length == l1.length) = true:=by first | simpa using c3 | (simp at c3 ⊢;omega)
  clear c3
  have H':=Aside0.mk H
  clear H
  go_enter Tryd.func42,Tryd.ntmps42
  go_wp2
  repeat (go_quiet (fail);try go_wp2)
  go_loopg [13] k (fun kq v13 w'=>∃ (x13_1:Int),v13 = .int .i64 x13_1 ∧ Aside0 (bourseref13_Same.l0 kq l0 l1 (l0.length:Int) x13_1 = some r) ∧ Aside0 (kq ≤ k) ∧ Drawn0 w w')
  case atStart=>exact ⟨(0),(by first | rfl | (simp;done) | (simp [*];done)),H',⟨Nat.le_refl _⟩,by repeat (first | exact Drawn0.refl _ | apply Drawn0.step)⟩
  case round=>
   clear H'
   try clear c1
   try clear p2
   try clear c3
   try clear c3b0
   try clear c3b1
   try clear c3b2
   obtain ⟨x13_1,rfl,HA,HK1,⟨m1,rfl⟩⟩:=hrel
   cases gk with
   | zero=>exact absurd HA.out (by simp [bourseref13_Same.l0])
   | succ k1=>
    have H:=HA.out
    clear HA
    simp only [bourseref13_Same.l0] at H
    by_cases c4:x13_1 < (l0.length:Int)
    ·rw [if_pos c4] at H
     have c4b0:decide (x13_1 < (l0.length:Int)) = true:=decide_eq_true c4
     clear c4
     by_cases c5:0 ≤ x13_1
     ·rw [if_pos c5] at H
      have c5b0:decide (0 ≤ x13_1) = true:=decide_eq_true c5
      clear c5
      by_cases c6:x13_1 < (l0.length:Int)
      ·rw [if_pos c6] at H
       have c6b0:decide (x13_1 < (l0.length:Int)) = true:=decide_eq_true c6
       clear c6
       by_cases c7:x13_1 < (l1.length:Int)
       ·rw [if_pos c7] at H
        have c7b0:decide (x13_1 < (l1.length:Int)) = true:=decide_eq_true c7
        clear c7
        by_cases c8:(!(((rd_T112 l0 x13_1).f0) == ((rd_T112 l1 x13_1).f0)) || (!(((rd_T112 l0 x13_1).f1) == ((rd_T112 l1 x13_1).f1)) || (!(((rd_T112 l0 x13_1).f2) == ((rd_T112 l1 x13_1).f2)) || (!((((rd_T112 l0 x13_1).f3).toList) == (((rd_T112 l1 x13_1).f3).toList)) || (!((((rd_T112 l0 x13_1).f4).toList) == (((rd_T112 l1 x13_1).f4).toList))))))) = true
        ·rw [if_pos c8] at H
         have c8b0:(!(((rd_T112 l0 x13_1).f0) == ((rd_T112 l1 x13_1).f0)) || (!(((rd_T112 l0 x13_1).f1) == ((rd_T112 l1 x13_1).f1)) || (!(((rd_T112 l0 x13_1).f2) == ((rd_T112 l1 x13_1).f2)) || (!((((rd_T112 l0 x13_1).f3).toList) == (((rd_T112 l1 x13_1).f3).toList)) || (!((((rd_T112 l0 x13_1).f4).toList) == (((rd_T112 l1 x13_1).f4).toList))))))) = true:=c8
         clear c8
         obtain rfl:=Option.some.inj H
         have p238:0 ≤ (x13_1:Int):=of_decide_eq_true (by first | (with_reducible assumption) | assumption)
         have q238:x13_1 < (l0.length:Int):=of_decide_eq_true (by first | (with_reducible assumption) | assumption)
         obtain ⟨ad238,e238,hx238_0,hx238_1,hx238_2,hx238_3,hx238_4⟩:=at_T112 HR0.out x13_1 p238 q238
         cases e238
         replace p238:=eq_true p238
         replace q238:=eq_true q238
         have p239:0 ≤ (x13_1:Int):=of_decide_eq_true (by first | (with_reducible assumption) | assumption)
         have q239:x13_1 < (l1.length:Int):=of_decide_eq_true (by first | (with_reducible assumption) | assumption)
         obtain ⟨ad239,e239,hx239_0,hx239_1,hx239_2,hx239_3,hx239_4⟩:=at_T112 HR1.out x13_1 p239 q239
         cases e239
         replace p239:=eq_true p239
         replace q239:=eq_true q239
         go_wp2
         repeat (go_quiet (fail);try go_wp2)
         go_ret
         exact ⟨by first | rfl | (simp;done) | (simp [*];done),by repeat (first | exact Drawn0.refl _ | apply Drawn0.step)⟩
        ·rw [if_neg c8] at H
         have c8b0:(!(((rd_T112 l0 x13_1).f0) == ((rd_T112 l1 x13_1).f0)) || (!(((rd_T112 l0 x13_1).f1) == ((rd_T112 l1 x13_1).f1)) || (!(((rd_T112 l0 x13_1).f2) == ((rd_T112 l1 x13_1).f2)) || (!((((rd_T112 l0 x13_1).f3).toList) == (((rd_T112 l1 x13_1).f3).toList)) || (!((((rd_T112 l0 x13_1).f4).toList) == (((rd_T112 l1 x13_1).f4).toList))))))) = false:=by simpa using c8
         clear c8
         have H':=Aside0.mk H
         clear H
         have p238:0 ≤ (x13_1:Int):=of_decide_eq_true (by first | (with_reducible assumption) | assumption)
         have q238:x13_1 < (l0.length:Int):=of_decide_eq_true (by first | (with_reducible assumption) | assumption)
         obtain ⟨ad238,e238,hx238_0,hx238_1,hx238_2,hx238_3,hx238_4⟩:=at_T112 HR0.out x13_1 p238 q238
         cases e238
         replace p238:=eq_true p238
         replace q238:=eq_true q238
         have p239:0 ≤ (x13_1:Int):=of_decide_eq_true (by first | (with_reducible assumption) | assumption)
         have q239:x13_1 < (l1.length:Int):=of_decide_eq_true (by first | (with_reducible assumption) | assumption)
         obtain ⟨ad239,e239,hx239_0,hx239_1,hx239_2,hx239_3,hx239_4⟩:=at_T112 HR1.out x13_1 p239 q239
         cases e239
         replace p239:=eq_true p239
         replace q239:=eq_true q239
         go_wp2
         repeat (go_quiet (fail);try go_wp2)
         go_roundg k1
         case measure=>have:=HK1.out;omega
         case rel=>exact ⟨(wrap64 (x13_1 + 1)),(by first | rfl | (simp;done) | (simp [*];done)),H',⟨by have:=HK1.out;omega⟩,by repeat (first | exact Drawn0.refl _ | apply Drawn0.step)⟩
       ·rw [if_neg c7] at H
        exact absurd H (by simp)
      ·rw [if_neg c6] at H
       exact absurd H (by simp)
     ·rw [if_neg c5] at H
      exact absurd H (by simp)
    ·rw [if_neg c4] at H
     have c4b0:decide (x13_1 < (l0.length:Int)) = false:=decide_eq_false c4
     clear c4
     obtain rfl:=Option.some.inj H
     go_wp2
     repeat (go_quiet (fail);try go_wp2)
     go_ret
     exact ⟨by first | rfl | (simp;done) | (simp [*];done),by repeat (first | exact Drawn0.refl _ | apply Drawn0.step)⟩
 ·rw [if_neg c3] at H
  have c3b0:((l0.length:Int) == (l1.length:Int)) = false:=beq_eq_false_iff_ne.mpr c3
  have c3b1:((l0.length:Int) != (l1.length:Int)) = true:=bne_iff_ne.mpr c3
  have c3b2:(l0.length == l1.length) = false:=by first | simpa using c3 | (simp at c3 ⊢;omega)
  obtain rfl:=Option.some.inj H
  go_enter Tryd.func42,Tryd.ntmps42
  go_wp2
  repeat (go_quiet (fail);try go_wp2)
  go_ret
  exact ⟨by first | rfl | (simp;done) | (simp [*];done),by repeat (first | exact Drawn0.refl _ | apply Drawn0.step)⟩
end Go.Proofs.YteilnbnnhocciaaDoor.KV

/-! KV61 -/
namespace Go.Proofs.YteilnbnnhocciaaDoor.KV
open Go.RowKit Go.Proofs.YteilnbnnhocciaaDoorW.PrintWords Go.Proofs.YteilnbnnhocciaaDoorW.PrintLast Go.Proofs.YteilnbnnhocciaaDoorW.PrintMore Go.Proofs.YteilnbnnhocciaaDoorM
attribute [local go_sem] max2_int min2_int max_two min_two max_three min_three max_four min_four
def bourseref13_has.l0:Nat → Int → List (S112) → Int → Int → Option (Bool)
 | 0,_,_,_,_=>none
 | k + 1,x1,x7,x8,x9=>if x9 < x8 then (if 0 ≤ x9 then (if x9 < (x7.length:Int) then (if ((rd_T112 x7 x9).f0) = x1 then (some true) else (bourseref13_has.l0 k x1 x7 x8 (wrap64 (x9 + 1)))) else (none)) else (none)) else (some false)
def bourseref13_has.f (k:Nat) (l0:List (S112)) (a1:Int):Option (Bool):=bourseref13_has.l0 k a1 l0 (l0.length:Int) 0
end Go.Proofs.YteilnbnnhocciaaDoor.KV

/-! KV62 -/
namespace Go.Proofs.YteilnbnnhocciaaDoor.KV
open Go.RowKit Go.Proofs.YteilnbnnhocciaaDoorW.PrintWords Go.Proofs.YteilnbnnhocciaaDoorW.PrintLast Go.Proofs.YteilnbnnhocciaaDoorW.PrintMore Go.Proofs.YteilnbnnhocciaaDoorM
attribute [local go_sem] max2_int min2_int max_two min_two max_three min_three max_four min_four
attribute [local go_sem] gtr_run leq_run geq_run
end Go.Proofs.YteilnbnnhocciaaDoor.KV

/-! KV63 -/
namespace Go.Proofs.YteilnbnnhocciaaDoor.KV
open Go.RowKit Go.Proofs.YteilnbnnhocciaaDoorW.PrintWords Go.Proofs.YteilnbnnhocciaaDoorW.PrintLast Go.Proofs.YteilnbnnhocciaaDoorW.PrintMore Go.Proofs.YteilnbnnhocciaaDoorM
attribute [local go_sem] max2_int min2_int max_two min_two max_three min_three max_four min_four
attribute [local go_sem] gtr_run leq_run geq_run
end Go.Proofs.YteilnbnnhocciaaDoor.KV

/-! KV64 -/
namespace Go.Proofs.YteilnbnnhocciaaDoor.KV
open Go.RowKit Go.Proofs.YteilnbnnhocciaaDoorW.PrintWords Go.Proofs.YteilnbnnhocciaaDoorW.PrintLast Go.Proofs.YteilnbnnhocciaaDoorW.PrintMore Go.Proofs.YteilnbnnhocciaaDoorM
attribute [local go_sem] max2_int min2_int max_two min_two max_three min_three max_four min_four
attribute [local go_sem] gtr_run leq_run geq_run
end Go.Proofs.YteilnbnnhocciaaDoor.KV
