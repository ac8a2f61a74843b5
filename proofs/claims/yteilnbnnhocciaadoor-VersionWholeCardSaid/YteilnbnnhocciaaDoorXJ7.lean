/- VersionWhole: the card of the statement VersionWhole, with no condition: what a pick has is all that overlaps it, a version made of another one's files is that one, edits change no version. (part 7 of 8; packed by program out of the texts named below) -/
import Derived.Test.YteilnbnnhocciaaDoorXJ6
import Derived.Deep.RegionHeld3
import Derived.Deep.CutRange
import Derived.StillTailTactics
import Derived.ScopeJumps
set_option linter.unusedVariables false
set_option linter.unusedSimpArgs false

/-! V40 -/
namespace Go.Proofs.YteilnbnnhocciaaDoor.V
open Go.Proofs Go.RowKit Go.Proofs.YteilnbnnhocciaaDoorM Go.Proofs.YteilnbnnhocciaaDoorW.PrintWords Go.Proofs.YteilnbnnhocciaaDoorW.PrintLast Go.Proofs.YteilnbnnhocciaaDoorW.PrintMore Go.Proofs.YteilnbnnhocciaaDoor.KV
theorem rd112 {L:List FileV} {i:Nat} (h:i < L.length):rd_T112 (L.map s112) (i:Int) = s112 L[i]:=by simp [rd_T112,List.getD,h]
theorem ahead_f (lv:Nat) (a b:FileV):bourseref13_ahead.f lv a.num a.size a.count a.least a.most b.num b.size b.count b.least b.most = some (aheadB lv a b):=by
 unfold bourseref13_ahead.f aheadB
 by_cases h:lv = 0
 ·subst h
  simp
 ·rw [if_neg (by omega),if_neg h]
  by_cases h1:Op.bytesLess a.least.toList b.least.toList = true
  ·rw [if_pos h1,h1];rfl
  ·have h1':Op.bytesLess a.least.toList b.least.toList = false:=by simpa using h1
   rw [if_neg h1,h1']
   by_cases h2:a.least.toList = b.least.toList
   ·rw [if_pos h2];simp [h2]
   ·rw [if_neg h2];simp [h2]
def withRest (lv:Nat) (f:FileV):Bool → List FileV → List FileV
 | true,L=>L
 | false,L=>withB lv f L
theorem with_l0 (lv:Nat) (f:FileV):∀ (d k i:Nat) (L:List FileV) (acc:List FileV) (b:Bool),i + d = L.length → d < k → acc.length + 2 * d ≤ 1000000 → L.length ≤ 1000000 →
  bourseref13_with.l0 k lv (acc.map s112) b (L.map s112) (L.length:Int) (i:Int) f.num f.size f.count f.least f.most = some ((acc ++ withRest lv f b (L.drop i)).map s112):=by
 intro d
 induction d with
 | zero=>
  intro k i L acc b hi hk ha hl
  obtain ⟨k,rfl⟩:∃ k',k = k' + 1:=⟨k - 1,by omega⟩
  rw [bourseref13_with.l0,if_neg (by omega),List.drop_of_length_le (by omega)]
  cases b with
  | true=>rw [if_pos rfl];simp [withRest]
  | false=>rw [if_neg (by simp),if_pos (by simp;omega)];simp [withRest,withB,s112]
 | succ d ih=>
  intro k i L acc b hi hk ha hl
  obtain ⟨k,rfl⟩:∃ k',k = k' + 1:=⟨k - 1,by omega⟩
  have hlt:i < L.length:=by omega
  have hw:wrap64 ((i:Int) + 1) = ((i + 1:Nat):Int):=wr1 hlt (by omega)
  have hd:L.drop i = L[i] :: L.drop (i + 1):=List.drop_eq_getElem_cons hlt
  have push:∀ (acc:List FileV) (x:FileV),acc.map s112 ++ [(⟨(s112 x).f0,(s112 x).f1,(s112 x).f2,(s112 x).f3,(s112 x).f4⟩:S112)] = (acc ++ [x]).map s112:=fun acc x=>by rw [List.map_append];rfl
  have pushf:∀ (acc:List FileV),acc.map s112 ++ [(⟨f.num,f.size,f.count,f.least,f.most⟩:S112)] = (acc ++ [f]).map s112:=fun acc=>by rw [List.map_append];rfl
  rw [bourseref13_with.l0,if_pos (by omega),if_pos (by omega),if_pos (by rw [List.length_map];omega),rd112 hlt,hw]
  cases b with
  | true=>
   rw [if_pos rfl,if_pos (by rw [List.length_map];omega),push,ih k (i + 1) L (acc ++ [L[i]]) true (by omega) (by omega) (by simp;omega) hl,hd]
   simp [withRest]
  | false=>
   have ha2:bourseref13_ahead.f lv f.num f.size f.count f.least f.most (s112 L[i]).f0 (s112 L[i]).f1 (s112 L[i]).f2 (s112 L[i]).f3 (s112 L[i]).f4 = some (aheadB lv f L[i]):=ahead_f lv f L[i]
   rw [if_neg (by simp),ha2,Option.bind_some,hd]
   by_cases h:aheadB lv f L[i] = true
   ·rw [if_pos h,if_pos (by rw [List.length_map];omega),pushf,Option.bind_some,if_pos (by simp;omega),push,ih k (i + 1) L _ true (by omega) (by omega) (by simp;omega) hl]
    simp [withRest,withB,h]
   ·rw [if_neg h,if_pos (by rw [List.length_map];omega),push,ih k (i + 1) L _ false (by omega) (by omega) (by simp;omega) hl]
    simp [withRest,withB,h]
theorem with_eq (lv:Nat) (f:FileV) (L:List FileV) (hl:L.length ≤ 500000):bourseref13_with.f 1000001 lv (L.map s112) f.num f.size f.count f.least f.most = some ((withB lv f L).map s112):=by
 unfold bourseref13_with.f
 rw [List.length_map,show (0:Int) = ((0:Nat):Int) from rfl]
 exact with_l0 lv f L.length 1000001 0 L [] false (by omega) (by omega) (by simp;omega) (by omega)
theorem has_l0 (n:Int):∀ (d k i:Nat) (L:List FileV),i + d = L.length → d < k → L.length ≤ 1000000 → bourseref13_has.l0 k n (L.map s112) (L.length:Int) (i:Int) = some ((nums (L.drop i)).contains n):=by
 intro d
 induction d with
 | zero=>
  intro k i L hi hk hl
  obtain ⟨k,rfl⟩:∃ k',k = k' + 1:=⟨k - 1,by omega⟩
  rw [bourseref13_has.l0,if_neg (by omega),List.drop_of_length_le (by omega)]
  rfl
 | succ d ih=>
  intro k i L hi hk hl
  obtain ⟨k,rfl⟩:∃ k',k = k' + 1:=⟨k - 1,by omega⟩
  have hlt:i < L.length:=by omega
  rw [bourseref13_has.l0,if_pos (by omega),if_pos (by omega),if_pos (by rw [List.length_map];omega),rd112 hlt,wr1 hlt (by omega),ih k (i + 1) L (by omega) (by omega) hl,List.drop_eq_getElem_cons hlt]
  show (if L[i].num = n then _ else _) = some ((L[i].num :: nums (L.drop (i + 1))).contains n)
  rw [List.contains_cons]
  by_cases h:L[i].num = n
  ·rw [if_pos h,h];simp
  ·rw [if_neg h]
   have:(n == L[i].num) = false:=by simpa using fun e:n = L[i].num=>h e.symm
   rw [this,Bool.false_or]
theorem has_eq (n:Int) (L:List FileV) (hl:L.length ≤ 1000000):bourseref13_has.f 1000001 (L.map s112) n = some ((nums L).contains n):=by
 unfold bourseref13_has.f
 rw [List.length_map,show (0:Int) = ((0:Nat):Int) from rfl]
 exact has_l0 n L.length 1000001 0 L (by omega) (by omega) hl
theorem same_l0:∀ (d k i:Nat) (L:List FileV),i + d = L.length → d < k → L.length ≤ 1000000 → bourseref13_Same.l0 k (L.map s112) (L.map s112) (L.length:Int) (i:Int) = some true:=by
 intro d
 induction d with
 | zero=>
  intro k i L hi hk hl
  obtain ⟨k,rfl⟩:∃ k',k = k' + 1:=⟨k - 1,by omega⟩
  rw [bourseref13_Same.l0,if_neg (by omega)]
 | succ d ih=>
  intro k i L hi hk hl
  obtain ⟨k,rfl⟩:∃ k',k = k' + 1:=⟨k - 1,by omega⟩
  have hlt:i < L.length:=by omega
  rw [bourseref13_Same.l0,if_pos (by omega),if_pos (by omega),if_pos (by rw [List.length_map];omega),if_pos (by rw [List.length_map];omega),wr1 hlt (by omega),ih k (i + 1) L (by omega) (by omega) hl,if_neg (by simp)]
theorem same_eq (L:List FileV) (hl:L.length ≤ 1000000):bourseref13_Same.f 1000001 (L.map s112) (L.map s112) = some true:=by
 unfold bourseref13_Same.f
 rw [if_pos rfl,List.length_map,show (0:Int) = ((0:Nat):Int) from rfl]
 exact same_l0 L.length 1000001 0 L (by omega) (by omega) hl
theorem light12_l0:∀ (d k i:Nat) (x:List S107) (u v w:Int) (c:List S107) (g:List S111),i + d = x.length → d < k → x.length ≤ 9223372036854775807 → ∃ b,bourselaw12_Light.l0 k x (x.length:Int) (i:Int) u v w c g = some b ∧ (b = true → c.length ≤ 210 ∧ g.length ≤ 210):=by
 intro d
 induction d with
 | zero=>
  intro k i x u v w c g hi hk hl
  obtain ⟨k,rfl⟩:∃ k',k = k' + 1:=⟨k - 1,by omega⟩
  rw [bourselaw12_Light.l0,if_neg (by omega)]
  split
  ·exact ⟨_,rfl,fun h=>by simp at h;omega⟩
  ·exact ⟨_,rfl,fun h=>by cases h⟩
 | succ d ih=>
  intro k i x u v w c g hi hk hl
  obtain ⟨k,rfl⟩:∃ k',k = k' + 1:=⟨k - 1,by omega⟩
  have hlt:i < x.length:=by omega
  rw [bourselaw12_Light.l0,if_pos (by omega),if_pos (by omega),if_pos (by omega)]
  split
  ·exact ⟨_,rfl,fun h=>by cases h⟩
  ·split
   ·exact ⟨_,rfl,fun h=>by cases h⟩
   ·rw [wr1 hlt hl]
    exact ih k (i + 1) x u v w c g (by omega) (by omega) hl
end Go.Proofs.YteilnbnnhocciaaDoor.V

/-! V41 -/
namespace Go.Proofs.YteilnbnnhocciaaDoor.V
open Go.Proofs Go.Sort Go.Lib Go.RowKit Go.BigFrame Go.Proofs.YteilnbnnhocciaaDoorM Go.Proofs.YteilnbnnhocciaaDoorW.PrintWords Go.Proofs.YteilnbnnhocciaaDoorW.PrintLast Go.Proofs.YteilnbnnhocciaaDoorW.PrintMore Go.Proofs.YteilnbnnhocciaaDoor.KV
theorem filesAt_to112 {w:World} {A:Option Addr} {L:List FileV} (h:FilesAt w A L) (hl:L.length ≤ 1000000):Kd.C k112 w A (L.map s112).length (L.map s112):=by
 refine ⟨rfl,by simp;omega,fun h0=>?_⟩
 obtain ⟨ad,e,hc⟩:=h (by simpa using h0)
 refine ⟨ad,e,fun j p hj=>?_⟩
 rw [List.getElem?_map] at hj
 obtain ⟨x,hx,rfl⟩:=Option.map_eq_some_iff.1 hj
 exact ⟨_,rfl,k112_mk w (s112 x),cells_of_fileAt (hc j x hx)⟩
def RowIs (w:World) (v:Value) (L:List FileV):Prop:=∃ A c,v = .slice A L.length c ∧ FilesAt w A L ∧ L.length ≤ c
theorem with_on (lv:Nat) (A:Option Addr) (L:List FileV) (c:Nat) (f:FileV) (w:World) (h:FilesAt w A L) (hl:L.length ≤ 500000) (hc:L.length ≤ c) :
  Calls Tryd.prog 129 #[.int .i64 lv,.slice A L.length c,fileVal f] w fun e w'=>(∃ v,e = .returned v ∧ RowIs w' v (withB lv f L)) ∧ RowKit.Below w.heap.size w w':=by
 have:=bourseref13_with.calls 1000001 lv A c (L.map s112) f.num f.size f.count f.least f.most _ w (filesAt_to112 h (by omega)) (by simpa using hc) (with_eq lv f L hl)
 rw [List.length_map] at this
 refine this.mono fun e w' ⟨v,he,hR,hb⟩=>⟨⟨v,he,?_⟩,hb⟩
 obtain ⟨A',c',rfl,hle,hC⟩:=Kd.R_reads hR
 rw [List.length_map] at hC hle
 exact ⟨A',c',by rw [List.length_map],filesAt_of112 hC,hle⟩
theorem refSame_on (A A':Option Addr) (L:List FileV) (c c':Nat) (w:World) (h:FilesAt w A L) (h':FilesAt w A' L) (hl:L.length ≤ 1000000) (hc:L.length ≤ c) (hc':L.length ≤ c') :
  Calls Tryd.prog 42 #[.slice A L.length c,.slice A' L.length c'] w fun e w'=>e = .returned (.bool true) ∧ RowKit.Below w.heap.size w w':=by
 have:=bourseref13_Same.calls 1000001 A c (L.map s112) A' c' (L.map s112) _ w (filesAt_to112 h hl) (by simpa using hc) (filesAt_to112 h' hl) (by simpa using hc') (same_eq L hl)
 rw [List.length_map] at this
 exact this.mono fun e w' ⟨h1,h2⟩=>⟨h1,h2.below⟩
theorem info112':(Tryd.prog.info? 112).map (fun i=>(i.zero,i.size,i.bytes)) = some (some (.agg #[.int .u64 0,.int .u64 0,.int .u64 0,.string ⟨#[]⟩,.string ⟨#[]⟩]),5,56):=by kernel_rfl
theorem gone_of115 {w:World} {A:Option Addr} {G:List S111} (h:Kd.C k115 w A (G.map c111).length (G.map c111)) (h0:0 < G.length):∃ ad,A = some ad ∧ ∀ i x,G[i]? = some x → GoneAt w (ad.add (i * 2)) x:=by
 obtain ⟨ad,e,hc⟩:=h.2.2 (by simpa using h0)
 refine ⟨ad,e,fun i x hx=>?_⟩
 obtain ⟨c,hs,hK,hcell⟩:=hc i (c111 x) (by rw [List.getElem?_map,hx];rfl)
 obtain rfl:=k115_open hK
 exact ⟨hcell 0 _ rfl,by rw [← add_field _ _ 1 (by omega)];exact hcell 1 _ rfl⟩
theorem come_of114 {w:World} {A:Option Addr} {C:List S107} (h:Kd.C k114 w A (C.map c107).length (C.map c107)) (h0:0 < C.length):∃ ad,A = some ad ∧ ∀ i x,C[i]? = some x → ComeAt w (ad.add (i * 6)) x:=by
 obtain ⟨ad,e,hc⟩:=h.2.2 (by simpa using h0)
 refine ⟨ad,e,fun i x hx=>?_⟩
 obtain ⟨c,hs,hK,hcell⟩:=hc i (c107 x) (by rw [List.getElem?_map,hx];rfl)
 obtain rfl:=k114_open hK
 exact ⟨hcell 0 _ rfl,by rw [← add_field _ _ 1 (by omega)];exact hcell 1 _ rfl,by rw [← add_field _ _ 2 (by omega)];exact hcell 2 _ rfl,by rw [← add_field _ _ 3 (by omega)];exact hcell 3 _ rfl,by rw [← add_field _ _ 4 (by omega)];exact hcell 4 _ rfl,by rw [← add_field _ _ 5 (by omega)];exact hcell 5 _ rfl⟩
def RaPost (w:World) (R:(Nat → List FileV) × Int) (e:Ending) (w':World):Prop:=
 ∃ (A:Nat → Option Addr) (c:Nat → Nat),e = .returned (.tuple #[.agg #[.slice (A 0) (R.1 0).length (c 0),.slice (A 1) (R.1 1).length (c 1),.slice (A 2) (R.1 2).length (c 2),.slice (A 3) (R.1 3).length (c 3)],.int .i64 R.2]) ∧ (∀ i,i < 4 → FilesAt w' (A i) (R.1 i) ∧ (R.1 i).length ≤ c i) ∧ RowKit.Below w.heap.size w w'
theorem RaPost.nothing {w w':World} {er:Int} (hb:RowKit.Below w.heap.size w w'):RaPost w (noneF,er) (.returned (.tuple #[.agg #[.slice none 0 0,.slice none 0 0,.slice none 0 0,.slice none 0 0],.int .i64 er])) w':=
 ⟨fun _=>none,fun _=>0,rfl,fun i _=>⟨fun h=>by simp [noneF] at h,Nat.le_refl _⟩,hb⟩
structure RaSt (w:World) (cv gv:Value) (F:Nat → List FileV) (A:Nat → Option Addr) (c:Nat → Nat) (W:World):Prop where
 four:Four W w.heap.size (fun i=>.slice (A i) (F i).length (c i))
 rows:∀ i,i < 4 → FilesAt W (A i) (F i) ∧ (F i).length ≤ c i
 r:Four W (w.heap.size + 1 + 1) (fun _=>nilS)
 come:W.cell? ⟨w.heap.size + 1,3,none⟩ = some cv
 gone:W.cell? ⟨w.heap.size + 1,4,none⟩ = some gv
 below:RowKit.Below w.heap.size w W
 size:w.heap.size + 3 ≤ W.heap.size
theorem RaSt.step {w:World} {cv gv:Value} {F:Nat → List FileV} {A:Nat → Option Addr} {c:Nat → Nat} {W W':World} (h:RaSt w cv gv F A c W) (hb:RowKit.Below W.heap.size W W'):RaSt w cv gv F A c W':=
 have up:∀ p v,W.cell? p = some v → W'.cell? p = some v:=fun p v e=>(hb.cell (World.block_lt_of_cell? W p e)).trans e
 ⟨h.four.below hb,fun i hi=>⟨(h.rows i hi).1.below hb,(h.rows i hi).2⟩,h.r.below hb,up _ _ h.come,up _ _ h.gone,h.below.trans (hb.mono h.below.size),Nat.le_trans h.size hb.size⟩
theorem RaSt.set {w:World} {cv gv:Value} {F:Nat → List FileV} {A:Nat → Option Addr} {c:Nat → Nat} {W:World} {lv c':Nat} {A':Option Addr} {L':List FileV} (h:RaSt w cv gv F A c W) (hlv:lv < 4) (hf:FilesAt W A' L') (hl:L'.length ≤ c') :
  RaSt w cv gv (upd F lv L') (fun x=>if x = lv then A' else A x) (fun x=>if x = lv then c' else c x) (W.setCell ⟨w.heap.size,lv,none⟩ (.slice A' L'.length c')):=by
 have far:∀ k j,k ≠ w.heap.size → (W.setCell ⟨w.heap.size,lv,none⟩ (.slice A' L'.length c')).cell? ⟨k,j,none⟩ = W.cell? ⟨k,j,none⟩:=fun k j hk=>World.cell?_of_block (Below.heap_setCell W ⟨w.heap.size,lv,none⟩ _ k hk)
 have fa:∀ B L,FilesAt W B L → FilesAt (W.setCell ⟨w.heap.size,lv,none⟩ (.slice A' L'.length c')) B L:=fun B L hB=>filesAt_far hB (a:=⟨w.heap.size,lv,none⟩) rfl h.four (fun i _=>⟨_,_,_,rfl⟩) _
 refine ⟨?_,fun i hi=>?_,h.r.far (by omega) _,by rw [far _ _ (by omega)];exact h.come,by rw [far _ _ (by omega)];exact h.gone,h.below.setCell (p:=⟨w.heap.size,lv,none⟩) (Nat.le_refl _) _,by rw [World.size_setCell];exact h.size⟩
 ·have:=h.four.set lv hlv (.slice A' L'.length c')
  have e:(fun x=>if x = lv then Value.slice A' L'.length c' else .slice (A x) (F x).length (c x)) = fun i=>.slice (if i = lv then A' else A i) (upd F lv L' i).length (if i = lv then c' else c i):=by
   funext x
   unfold upd
   by_cases hx:x = lv
   ·rw [if_pos hx,if_pos hx,if_pos hx,if_pos hx]
   ·rw [if_neg hx,if_neg hx,if_neg hx,if_neg hx]
  rwa [e] at this
 ·unfold upd
  by_cases hx:i = lv
  ·simp only [if_pos hx];exact ⟨fa _ _ hf,hl⟩
  ·simp only [if_neg hx];exact ⟨fa _ _ (h.rows i hi).1,(h.rows i hi).2⟩
theorem own112_files {W:World} {base:Nat} {v:Value} {L:List FileV} (h:W.ownsRow base 112 5 v L.length (cellsF L)):RowIs W v L:=by
 have h0:=h
 rcases h.2 with ⟨rfl,hn⟩ | ⟨g,cap,cur,rfl,hb,hg,hle,hm,hs,ht⟩
 ·exact ⟨none,0,by rw [hn],fun h1=>by omega,by omega⟩
 ·refine ⟨_,cap,rfl,fun _=>⟨_,rfl,fun i x hx=>fileAt_cells fun j u hu=>?_⟩,hle⟩
  have hi:i < L.length:=(List.getElem?_eq_some_iff.1 hx).1
  have hj:j < 5:=by have:=(List.getElem?_eq_some_iff.1 hu).1;rwa [encF_len] at this
  rw [h0.cellAt (i * 5 + j) (by omega)]
  exact cellsF_at L i x j u hx hu
def TakeJ (num:Int) (L:List FileV) (i:Nat) (b:Bool) (acc:List FileV):Prop:=
 (b = false ∧ acc = L.take i ∧ takeOut num L = (takeOut num (L.drop i)).map (L.take i ++ ·)) ∨ (b = true ∧ takeOut num L = some (acc ++ L.drop i))
theorem takeOut_cons (n:Int) (f:FileV) (r:List FileV):takeOut n (f :: r) = if f.num = n then some r else (takeOut n r).map (f :: ·):=rfl
theorem TakeJ.start (num:Int) (L:List FileV):TakeJ num L 0 false []:=.inl ⟨rfl,rfl,by rw [List.drop_zero,List.take_zero];simp⟩
theorem TakeJ.hit {num:Int} {L:List FileV} {i:Nat} {acc:List FileV} {f:FileV} (h:TakeJ num L i false acc) (hf:L[i]? = some f) (e:f.num = num):TakeJ num L (i + 1) true acc:=by
 obtain ⟨q1,q2⟩:=List.getElem?_eq_some_iff.1 hf
 rcases h with ⟨_,h1,h2⟩ | ⟨h1,_⟩
 ·rw [List.drop_eq_getElem_cons q1,q2,takeOut_cons,if_pos e] at h2
  exact .inr ⟨rfl,by rw [h2,h1];rfl⟩
 ·cases h1
theorem TakeJ.miss {num:Int} {L:List FileV} {i:Nat} {b:Bool} {acc:List FileV} {f:FileV} (h:TakeJ num L i b acc) (hf:L[i]? = some f) (e:b = true ∨ f.num ≠ num):TakeJ num L (i + 1) b (acc ++ [f]):=by
 obtain ⟨q1,q2⟩:=List.getElem?_eq_some_iff.1 hf
 rcases h with ⟨h0,h1,h2⟩ | ⟨h0,h1⟩
 ·rcases e with e | e
  ·rw [h0] at e;cases e
  ·rw [List.drop_eq_getElem_cons q1,q2,takeOut_cons,if_neg e] at h2
   have ht:L.take (i + 1) = L.take i ++ [f]:=by rw [List.take_succ_eq_append_getElem q1,q2]
   refine .inl ⟨h0,by rw [h1,ht],?_⟩
   rw [h2,ht,Option.map_map]
   congr 1
   funext x
   simp
 ·refine .inr ⟨h0,?_⟩
  rw [h1,List.drop_eq_getElem_cons q1,q2]
  simp
theorem TakeJ.stop {num:Int} {L:List FileV} {b:Bool} {acc:List FileV} (h:TakeJ num L L.length b acc):takeOut num L = if b = true then some acc else none:=by
 rcases h with ⟨h0,h1,h2⟩ | ⟨h0,h1⟩
 ·rw [h0,h2,List.drop_length];rfl
 ·rw [h0,h1,List.drop_length,List.append_nil];rfl
theorem TakeJ.len {num:Int} {L:List FileV} {i:Nat} {b:Bool} {acc:List FileV} (h:TakeJ num L i b acc) (hi:i ≤ L.length):acc.length ≤ L.length:=by
 rcases h with ⟨h0,h1,h2⟩ | ⟨h0,h1⟩
 ·rw [h1,List.length_take];omega
 ·have:=(takeOut_sub _ _ _ h1).length_le
  rw [List.length_append] at this
  omega
end Go.Proofs.YteilnbnnhocciaaDoor.V

/-! V42 -/
namespace Go.Proofs.YteilnbnnhocciaaDoor.V
open Go.Proofs Go.Sort Go.Lib Go.RowKit Go.BigFrame Go.Proofs.YteilnbnnhocciaaDoorM Go.Proofs.YteilnbnnhocciaaDoorW.PrintWords Go.Proofs.YteilnbnnhocciaaDoorW.PrintLast Go.Proofs.YteilnbnnhocciaaDoorW.PrintMore Go.Proofs.YteilnbnnhocciaaDoor.KV
theorem refApply_start (w:World) (s:Nat → Value) (ev:Array Value) (h5:ev.size = 5) (cv gv:Value) (h3:ev[3]? = some cv) (h4:ev[4]? = some gv):∀ w1,w1 = ((w.alloc (.cells #[s 0,s 1,s 2,s 3] 83)).alloc (.cells ev 36)).alloc (.cells #[.slice none 0 0,.slice none 0 0,.slice none 0 0,.slice none 0 0] 83) →
  Four w1 w.heap.size s ∧ Four w1 (w.heap.size + 1 + 1) (fun _=>nilS) ∧ (∀ i u,ev[i]? = some u → w1.cell? ⟨w.heap.size + 1,i,none⟩ = some u) ∧ RowKit.Below w.heap.size w w1 ∧ w1.heap.size = w.heap.size + 3:=by
 intro w1 hw1
 have z1:=size_alloc w (.cells #[s 0,s 1,s 2,s 3] 83)
 have z2:=size_alloc (w.alloc (.cells #[s 0,s 1,s 2,s 3] 83)) (.cells ev 36)
 have z3:=size_alloc ((w.alloc (.cells #[s 0,s 1,s 2,s 3] 83)).alloc (.cells ev 36)) (.cells #[.slice none 0 0,.slice none 0 0,.slice none 0 0,.slice none 0 0] 83)
 have e1:=World.alloc_heap_new w (.cells #[s 0,s 1,s 2,s 3] 83)
 have e2:=World.alloc_heap_new (w.alloc (.cells #[s 0,s 1,s 2,s 3] 83)) (.cells ev 36)
 have e3:=World.alloc_heap_new ((w.alloc (.cells #[s 0,s 1,s 2,s 3] 83)).alloc (.cells ev 36)) (.cells #[.slice none 0 0,.slice none 0 0,.slice none 0 0,.slice none 0 0] 83)
 rw [z1] at e2
 rw [z2,z1] at e3
 have f1:Four (w.alloc (.cells #[s 0,s 1,s 2,s 3] 83)) w.heap.size s:=⟨83,e1⟩
 have b2:=(RowKit.Below.refl (w.alloc (.cells #[s 0,s 1,s 2,s 3] 83)).heap.size (w.alloc (.cells #[s 0,s 1,s 2,s 3] 83))).alloc (Nat.le_refl _) (.cells ev 36)
 have b3:=(RowKit.Below.refl ((w.alloc (.cells #[s 0,s 1,s 2,s 3] 83)).alloc (.cells ev 36)).heap.size _).alloc (Nat.le_refl _) (.cells #[.slice none 0 0,.slice none 0 0,.slice none 0 0,.slice none 0 0] 83)
 refine ⟨by rw [hw1];exact (f1.below b2).below b3,by rw [hw1];exact ⟨83,e3⟩,fun i u h=>?_,by rw [hw1];exact (((RowKit.Below.refl _ _).alloc (Nat.le_refl _) _).alloc (by omega) _).alloc (by omega) _,by rw [hw1];omega⟩
 have e:((w.alloc (.cells #[s 0,s 1,s 2,s 3] 83)).alloc (.cells ev 36)).cell? ⟨w.heap.size + 1,i,none⟩ = some u:=by
  simp only [World.cell?,e2]
  exact h
 rw [hw1]
 exact (b3.cell (World.block_lt_of_cell? _ _ e)).trans e
def RgJ (w:World) (cv gv:Value) (G:List S111) (F:Nat → List FileV) (j:Nat) (wr:World):Prop:=
 ∃ F' A c,RaSt w cv gv F' A c wr ∧ goAll G F = goAll (G.drop j) F' ∧ ∀ i,(F' i).Sublist (F i)
theorem RgJ.gone {w wr:World} {cv gv:Value} {G:List S111} {F:Nat → List FileV} {j:Nat} {lv:Nat} {num:Int} (h:RgJ w cv gv G F j wr) (hx:G[j]? = some ⟨(lv:Int),num⟩) :
  ∃ F' A c,RaSt w cv gv F' A c wr ∧ (∀ i,(F' i).Sublist (F i)) ∧ (takeOut num (F' lv) = none → goAll G F = none) ∧ ∀ l,takeOut num (F' lv) = some l → goAll G F = goAll (G.drop (j + 1)) (upd F' lv l):=by
 obtain ⟨F',A,c,h1,h2,h3⟩:=h
 refine ⟨F',A,c,h1,h3,?_⟩
 obtain ⟨q1,q2⟩:=List.getElem?_eq_some_iff.1 hx
 rw [List.drop_eq_getElem_cons q1,q2,goAll_cons] at h2
 simp only [Int.toNat_natCast] at h2
 exact ⟨fun ht=>by rw [ht] at h2;exact h2,fun l ht=>by rw [ht] at h2;exact h2⟩
def RcJ (w:World) (cv gv:Value) (C:List S107) (F1:Nat → List FileV) (k:Nat) (wr:World):Prop:=
 ∃ F' A c,RaSt w cv gv F' A c wr ∧ comeWith C F1 = comeWith (C.drop k) F' ∧ ∀ i,(F' i).length ≤ (F1 i).length + k
theorem comeWith_cons (x:S107) (r:List S107) (F:Nat → List FileV):comeWith (x :: r) F = comeWith r (upd F x.f0.toNat (withB x.f0.toNat (of97 x.f1) (F x.f0.toNat))):=rfl
theorem RcJ.come {w wr:World} {cv gv:Value} {C:List S107} {F1:Nat → List FileV} {k lv:Nat} {x:S97} (h:RcJ w cv gv C F1 k wr) (hx:C[k]? = some ⟨(lv:Int),x⟩) :
  ∃ F' A c,RaSt w cv gv F' A c wr ∧ comeWith C F1 = comeWith (C.drop (k + 1)) (upd F' lv (withB lv (of97 x) (F' lv))) ∧ ∀ i,(F' i).length ≤ (F1 i).length + k:=by
 obtain ⟨F',A,c,h1,h2,h3⟩:=h
 refine ⟨F',A,c,h1,?_,h3⟩
 obtain ⟨q1,q2⟩:=List.getElem?_eq_some_iff.1 hx
 rw [List.drop_eq_getElem_cons q1,q2,comeWith_cons] at h2
 simpa only [Int.toNat_natCast] using h2
theorem withB_len (lv:Nat) (f:FileV) (L:List FileV):(withB lv f L).length = L.length + 1:=(withB_perm lv f L).length_eq
theorem updW_len {F' F1:Nat → List FileV} {k lv:Nat} {f:FileV} (h:∀ i,(F' i).length ≤ (F1 i).length + k):∀ i,(upd F' lv (withB lv f (F' lv)) i).length ≤ (F1 i).length + (k + 1):=fun i=>by
 have:=h i
 unfold upd
 by_cases e:i = lv
 ·subst e;rw [if_pos rfl,withB_len];omega
 ·rw [if_neg e];omega
structure InSt (w0:World) (num:Int) (L:List FileV) (i:Nat) (b:Bool) (v:Value) (wx:World):Prop where
 below:RowKit.Below w0.heap.size w0 wx
 st:∃ acc,TakeJ num L i b acc ∧ wx.ownsRow w0.heap.size 112 5 v acc.length (cellsF acc)
theorem five_newb (W:World) (f:FileV) (t:TypeId) (b:Nat) (hb:b = W.heap.size):∀ j u,(encF f)[j]? = some u → (W.alloc (.cells #[.int .u64 f.num,.int .u64 f.size,.int .u64 f.count,.string f.least,.string f.most] t)).cell? ((⟨b,0,none⟩:Addr).add j) = some u:=by
 subst hb
 exact five_new W f t
theorem own_n {W:World} {base e size n m c:Nat} {A:Option Addr} {xs:List Value} (h:W.ownsRow base e size (.slice A n c) m xs):n = m:=by
 rcases h.2 with ⟨h1,h2⟩ | ⟨g,cap,cur,h1,_⟩
 ·injection h1 with _ h1 _;omega
 ·injection h1
theorem InSt.hit {w0 wx wy:World} {num:Int} {L:List FileV} {i:Nat} {v:Value} {f:FileV} (h:InSt w0 num L i false v wx) (hf:L[i]? = some f) (e:f.num = num) (hb:RowKit.Below wx.heap.size wx wy):InSt w0 num L (i + 1) true v wy:=by
 obtain ⟨acc,h1,h2⟩:=h.st
 exact ⟨h.below.trans (hb.mono h.below.size),acc,h1.hit hf e,ownsRow_keep h2 hb⟩
theorem InSt.miss {w0 wx wy w9:World} {num:Int} {L:List FileV} {i:Nat} {b:Bool} {v v':Value} {f:FileV} {acc:List FileV} (h:InSt w0 num L i b v wx) (h1:TakeJ num L i b acc) (h2:wx.ownsRow w0.heap.size 112 5 v acc.length (cellsF acc)) (hf:L[i]? = some f) (e:b = true ∨ f.num ≠ num) (hb:RowKit.Below wx.heap.size wx wy)
  (hg:wy.grownBy w9 v.ownBlock) (hown:w9.ownsRow w0.heap.size 112 5 v' (acc.length + 1) (cellsF acc ++ encF f)):InSt w0 num L (i + 1) b v' w9:=by
 refine ⟨(h.below.trans (hb.mono h.below.size)).grown hg (Nat.le_trans h.below.size hb.size) (fun k hk=>(own_lt h2 hk).1),acc ++ [f],h1.miss hf e,?_⟩
 rw [cellsF_append,cellsF_one,List.length_append,List.length_singleton]
 exact hown
set_option maxHeartbeats 16000000 in
set_option maxRecDepth 100000 in
theorem refApply_on (F:Nat → List FileV) (A:Nat → Option Addr) (c:Nat → Nat) (a b d:Int) (CA GA:Option Addr) (cc gc:Nat) (C:List S107) (G:List S111) (w:World)
  (hin:∀ i,i < 4 → FilesAt w (A i) (F i) ∧ (F i).length ≤ c i) (hlen:∀ i,i < 4 → (F i).length ≤ 100000) (hwf:WfF F) (hCw:∀ x ∈ C,(Lit.int .u64 x.f1.f0).wf = true)
  (hC:Kd.C k114 w CA (C.map c107).length (C.map c107)) (hcc:C.length ≤ cc) (hG:Kd.C k115 w GA (G.map c111).length (G.map c111)) (hgc:G.length ≤ gc) :
  Calls Tryd.prog 89 #[.agg #[.slice (A 0) (F 0).length (c 0),.slice (A 1) (F 1).length (c 1),.slice (A 2) (F 2).length (c 2),.slice (A 3) (F 3).length (c 3)],.agg #[.int .u64 a,.int .u64 b,.int .u64 d,.slice CA C.length cc,.slice GA G.length gc]] w (RaPost w (applyR C G F)):=by
 obtain ⟨i0,hi,hz0,hz1,hz2⟩:=info_parts info112'
 have mixed:Tryd.prog.follows .mixedOrders = true:=by kernel_rfl
 obtain ⟨S,hS⟩:∃ S:Nat → Value,S = fun i=>.slice (A i) (F i).length (c i):=⟨_,rfl⟩
 obtain ⟨R,hR⟩:∃ R,R = applyR C G F:=⟨_,rfl⟩
 rw [← hR]
 obtain ⟨er,her⟩:∃ er,er = edit_Edit_Check.val C G:=⟨_,rfl⟩
 obtain ⟨w1,hw1⟩:∃ w1,w1 = ((w.alloc (.cells #[.slice (A 0) (F 0).length (c 0),.slice (A 1) (F 1).length (c 1),.slice (A 2) (F 2).length (c 2),.slice (A 3) (F 3).length (c 3)] 83)).alloc (.cells #[.int .u64 a,.int .u64 b,.int .u64 d,.slice CA C.length cc,.slice GA G.length gc] 36)).alloc (.cells #[.slice none 0 0,.slice none 0 0,.slice none 0 0,.slice none 0 0] 83):=⟨_,rfl⟩
 have hst:=refApply_start w S #[.int .u64 a,.int .u64 b,.int .u64 d,.slice CA C.length cc,.slice GA G.length gc] rfl _ _ rfl rfl w1 (by rw [hw1,hS])
 have HW1:=Hush.mk hw1
 have HC:Hush (Calls Tryd.prog 21 #[.agg #[.int .u64 a,.int .u64 b,.int .u64 d,.slice CA C.length cc,.slice GA G.length gc]] w1 fun e w'=>e = .returned (.int .i64 er) ∧ RowKit.Below w1.heap.size w1 w'):=⟨by
  have:=bourseref12_Edit_Check.calls 2000 a b d CA cc (C.map c107) GA gc (G.map c111) _ w1 (Kd.C_below hC hst.2.2.2.1) (by simpa using hcc) (Kd.C_below hG hst.2.2.2.1) (by simpa using hgc) (check_eq 2000 (Nat.le_refl _) a b d C G)
  rwa [List.length_map,List.length_map,← her] at this⟩
 have HND:Hush (∀ W,RowKit.Below w.heap.size w W → Four W (w.heap.size + 1 + 1) (fun _=>nilS) → ∀ er,R = (noneF,er) → Four ((((W.setCell ⟨w.heap.size + 1 + 1,0,none⟩ nilS).setCell ⟨w.heap.size + 1 + 1,1,none⟩ nilS).setCell ⟨w.heap.size + 1 + 1,2,none⟩ nilS).setCell ⟨w.heap.size + 1 + 1,3,none⟩ nilS) (w.heap.size + 1 + 1) (fun _=>nilS) ∧
   RaPost w R (.returned (.tuple #[.agg #[.slice none 0 0,.slice none 0 0,.slice none 0 0,.slice none 0 0],.int .i64 er])) ((((W.setCell ⟨w.heap.size + 1 + 1,0,none⟩ nilS).setCell ⟨w.heap.size + 1 + 1,1,none⟩ nilS).setCell ⟨w.heap.size + 1 + 1,2,none⟩ nilS).setCell ⟨w.heap.size + 1 + 1,3,none⟩ nilS)):=⟨fun W hW hf er he=>by
  have e:(fun i:Nat=>if i = 0 then nilS else if i = 1 then nilS else if i = 2 then nilS else nilS) = fun _=>nilS:=by funext x;simp
  have h1:=four_sets hf nilS nilS nilS nilS
  rw [e] at h1
  refine ⟨h1,?_⟩
  rw [he]
  exact RaPost.nothing (below_sets hW (by omega) _ _ _ _)⟩
 unfold nilS at HND
 by_cases hbad:er = 0
 case neg=>
  have hRR:R = (noneF,er):=by rw [hR,her];unfold applyR;rw [if_neg (by rw [← her];exact hbad)]
  have HRR:=Hush.mk hRR
  have hb2:(er == 0) = false:=by simpa using hbad
  have HST:=Hush.mk hst
  clear hst hS hR hRR hC hG hcc hgc her hw1 hin hlen hwf hCw
  go_enter Tryd.func89,Tryd.ntmps89
  go_wp2_with (go_at_call 21;rw [← HW1.out];refine HC.out.mono ?_;rintro e w2 ⟨rfl,hb2⟩;have HB2:=Hush.mk hb2;have r4:=HST.out.2.1.below hb2;have r0:=r4.cell 0 (by omega);have r1:=r4.cell 1 (by omega);have r2:=r4.cell 2 (by omega);have r3:=r4.cell 3 (by omega);have f0:=r4.frozen 0;have f1:=r4.frozen 1;have f2:=r4.frozen 2;have f3:=r4.frozen 3;unfold nilS at r0 r1 r2 r3;clear hb2 r4)
  obtain ⟨h4,hap⟩:=HND.out w2 (HST.out.2.2.2.1.trans (HB2.out.mono HST.out.2.2.2.1.size)) (by have:=HST.out.2.1.below HB2.out;unfold nilS at this;exact this) er HRR.out
  generalize ((((w2.setCell ⟨w.heap.size + 1 + 1,0,none⟩ (.slice none 0 0)).setCell ⟨w.heap.size + 1 + 1,1,none⟩ (.slice none 0 0)).setCell ⟨w.heap.size + 1 + 1,2,none⟩ (.slice none 0 0)).setCell ⟨w.heap.size + 1 + 1,3,none⟩ (.slice none 0 0)) = wF at h4 hap ⊢
  have k0:=h4.cell 0 (by omega)
  have k1:=h4.cell 1 (by omega)
  have k2:=h4.cell 2 (by omega)
  have k3:=h4.cell 3 (by omega)
  exact bodyPost_ret (v:=.tuple #[.agg #[.slice none 0 0,.slice none 0 0,.slice none 0 0,.slice none 0 0],.int .i64 er]) (by simp [results,Tryd.results89,go_sem,k0,k1,k2,k3]) rfl hap
 case pos=>
  subst hbad
  have hgood:=her.symm
  obtain ⟨hlG,hlC,hC2,hG2⟩:=level_of_check hgood
  have HR:Hush (R = match goAll G F with | none=>(noneF,16) | some F1=>if rightF (comeWith C F1) then (comeWith C F1,0) else (noneF,20)):=⟨by rw [hR];unfold applyR;rw [if_pos hgood];rfl⟩
  have HLG:=Hush.mk hlG
  have HLC:=Hush.mk hlC
  have HGR:Hush (∀ W,RowKit.Below w.heap.size w W → 0 < G.length → ∃ ad,GA = some ad ∧ ∀ i x,G[i]? = some x → GoneAt W (ad.add (i * 2)) x):=⟨fun W hW h0=>by
   obtain ⟨ad,h1,h2⟩:=gone_of115 hG h0
   exact ⟨ad,h1,fun i x hx=>(h2 i x hx).below hW⟩⟩
  have HCR:Hush (∀ W,RowKit.Below w.heap.size w W → 0 < C.length → ∃ ad,CA = some ad ∧ ∀ i x,C[i]? = some x → ComeAt W (ad.add (i * 6)) x):=⟨fun W hW h0=>by
   obtain ⟨ad,h1,h2⟩:=come_of114 hC h0
   exact ⟨ad,h1,fun i x hx=>(h2 i x hx).below hW⟩⟩
  have HWF:=Hush.mk hwf
  have HCW:=Hush.mk hCw
  have HLEN:=Hush.mk hlen
  have HG2:=Hush.mk hG2
  have HC2:=Hush.mk hC2
  obtain ⟨cv,hcv⟩:∃ cv,cv = Value.slice CA C.length cc:=⟨_,rfl⟩
  obtain ⟨gv,hgv⟩:∃ gv,gv = Value.slice GA G.length gc:=⟨_,rfl⟩
  have H1:Hush (∀ w2,RowKit.Below w1.heap.size w1 w2 → RgJ w cv gv G F 0 w2):=⟨fun w2 h2=>by
   have hs:RaSt w cv gv F A c w1:=⟨by have:=hst.1;rwa [hS] at this,fun i hi=>⟨(hin i hi).1.below hst.2.2.2.1,(hin i hi).2⟩,hst.2.1,by rw [hcv];exact hst.2.2.1 3 _ rfl,by rw [hgv];exact hst.2.2.1 4 _ rfl,hst.2.2.2.1,by rw [hst.2.2.2.2];exact Nat.le_refl _⟩
   exact ⟨F,A,c,hs.step h2,by rw [List.drop_zero],fun i=>List.Sublist.refl _⟩⟩
  have HCV:=Hush.mk hcv
  have HGV:=Hush.mk hgv
  have p4:=fun W (hW:RowKit.Below w1.heap.size w1 W)=>(hW.cell (World.block_lt_of_cell? w1 _ (hst.2.2.1 4 _ rfl))).trans (hst.2.2.1 4 _ rfl)
  have HP:=Hush.mk p4
  clear p4 hst hS hR hC hG hcc hgc her hgood hw1 hin hlen hwf hCw hlG hlC hC2 hG2 hcv hgv
  go_enter Tryd.func89,Tryd.ntmps89
  go_wp2_with (go_at_call 21;rw [← HW1.out];refine HC.out.mono ?_;rintro e w2 ⟨rfl,hb2⟩;have H2:=Hush.mk (H1.out w2 hb2);have p4:=HP.out w2 hb2;clear hb2)
  clear p4
  go_loopw [24] (fun iv wr=>∃ j:Nat,iv = .int .i64 j ∧ j ≤ G.length ∧ Hush (RgJ w cv gv G F j wr)) (fun iv _=>G.length - (intOf iv).toNat)
  case atStart=>exact ⟨0,by go_num,by omega,H2⟩
  case round=>
   obtain ⟨j,rfl,hj,HJ⟩:=hrel
   by_cases hlt:j < G.length
   ·have hltz:(j:Int) < (G.length:Int):=by omega
    obtain ⟨kb,hkb⟩:∃ kb:Int,kb = 200:=⟨_,rfl⟩
    have hjb:(j:Int) < kb:=by have:=HG2.out;omega
    have hkb2:kb ≤ 9000000:=by omega
    clear hkb
    obtain ⟨⟨gl,num⟩,hg⟩:∃ x,G[j]? = some x:=⟨_,List.getElem?_eq_getElem hlt⟩
    obtain ⟨lv,hlv,hgl⟩:=HLG.out _ (List.mem_of_getElem? hg)
    simp only at hgl
    subst hgl
    obtain ⟨F',A',c',hst,hsub,hgo⟩:=HJ.out.gone hg
    obtain ⟨ad,rfl,hrow⟩:=HGR.out wr hst.below (by omega)
    have hx:=hrow j _ hg
    simp only [GoneAt] at hx
    obtain ⟨x0,x1⟩:=hx
    have HS:=Hush.mk hst
    have HSUB:=Hush.mk hsub
    have HGO:=Hush.mk hgo
    have hlvz:(lv:Int) < 4:=by omega
    have hlv0:(0:Int) ≤ (lv:Int):=by omega
    obtain ⟨L,hL⟩:∃ L,L = F' lv:=⟨_,rfl⟩
    obtain ⟨AL,hAL⟩:∃ A,A = A' lv:=⟨_,rfl⟩
    obtain ⟨cL,hcL⟩:∃ c,c = c' lv:=⟨_,rfl⟩
    have hrows:=hst.rows lv hlv
    have hfv:=hst.four.cell lv hlv
    rw [← hL,← hAL] at hrows
    rw [← hL,← hAL,← hcL] at hfv
    have hlen:L.length ≤ 100000:=by rw [hL];exact Nat.le_trans (hsub lv).length_le (HLEN.out lv hlv)
    have HLL:=Hush.mk (And.intro hL (And.intro hAL hcL))
    have HRO:=Hush.mk hrows.1
    have HLE:=Hush.mk hlen
    obtain ⟨gb,hgb⟩:∃ gb,gb = wr.heap.size:=⟨_,rfl⟩
    obtain ⟨w5,hw5⟩:∃ w5,w5 = wr.alloc (.cells #[.int .i64 lv,.int .u64 num] 115):=⟨_,rfl⟩
    have b5:RowKit.Below wr.heap.size wr w5:=by rw [hw5];exact (RowKit.Below.refl _ _).alloc (Nat.le_refl _) _
    have H5:Hush (RowKit.Below wr.heap.size wr w5 ∧ w5.cell? ⟨gb,0,none⟩ = some (.int .i64 lv) ∧ w5.cell? ⟨gb,1,none⟩ = some (.int .u64 num) ∧ w5.cell? ⟨w.heap.size,lv,none⟩ = some (.slice AL L.length cL) ∧ gb < w5.heap.size):=⟨b5,by rw [hgb,hw5];exact (row_at wr _ _ 115).1,by rw [hgb,hw5];exact (row_at wr _ _ 115).2,(b5.cell (World.block_lt_of_cell? wr _ hfv)).trans hfv,by rw [hgb,hw5,size_alloc];omega⟩
    have z1:=H5.out.2.1
    have z2:=H5.out.2.2.2.1
    rw [hw5] at z1 z2
    rw [hgb] at z1
    clear hrow hg hst hsub hgo hL hAL hcL hrows hfv hlen HJ b5
    go_wp2
    rw [← hw5,← hgb]
    clear z1 z2 hw5 hgb x0 x1
    go_loopw [9,10,34] (fun lvv bv iv wx=>∃ (k:Nat) (bb:Bool) (An:Option Addr) (n cn:Nat),lvv = .slice An n cn ∧ bv = .bool bb ∧ iv = .int .i64 k ∧ k ≤ L.length ∧ Hush (InSt w5 num L k bb (.slice An n cn) wx)) (fun _ _ iv _=>L.length - (intOf iv).toNat)
    case atStart=>exact ⟨0,false,none,0,0,rfl,rfl,by go_num,by omega,⟨⟨RowKit.Below.refl _ _,[],TakeJ.start num L,⟨rfl,.inl ⟨rfl,rfl⟩⟩⟩⟩⟩
    case round=>
     obtain ⟨k,bb,An,n,cn,rfl,rfl,rfl,hk,HK⟩:=hrel
     by_cases hk2:k < L.length
     ·have hk2z:(k:Int) < (L.length:Int):=by omega
      obtain ⟨kc,hkc⟩:∃ kb:Int,kb = 100000:=⟨_,rfl⟩
      have hkb1:(k:Int) < kc:=by have:=HLE.out;omega
      have hkb2':kc ≤ 9000000:=by omega
      clear hkc
      obtain ⟨f,hf⟩:∃ f,L[k]? = some f:=⟨_,List.getElem?_eq_getElem hk2⟩
      obtain ⟨adL,hAd,hat⟩:=HRO.out (by omega)
      subst hAd
      have bx:=H5.out.1.trans (HK.out.below.mono H5.out.1.size)
      have hfx:=(hat k f hf).below bx
      have g1:=(HK.out.below.cell (p:=⟨gb,1,none⟩) H5.out.2.2.2.2).trans H5.out.2.2.1
      obtain ⟨acc,htj,hown⟩:=HK.out.st
      have hnn:=own_n hown
      have hacc:=htj.len (by omega)
      have HST:=Hush.mk (And.intro htj hown)
      have HAN:=Hush.mk hnn
      have hn2:n ≤ 100000:=by have:=HLE.out;omega
      have HF:=Hush.mk hf
      have hup:∀ o,(wr.alloc o).cell? ⟨gb,1,none⟩ = some (.int .u64 num):=fun o=>Lib.cell?_alloc_some o g1
      clear hat bx hf htj hown hnn hacc g1
      by_cases hq:f.num = num
      ·have hqb:(f.num == num) = true:=by simpa using hq
       have HQ:=Hush.mk hq
       cases bb with
       | false=>
        have HN:Hush (∀ wy,RowKit.Below wr.heap.size wr wy → InSt w5 num L (k + 1) true (.slice An n cn) wy):=⟨fun wy hb=>HK.out.hit HF.out HQ.out hb⟩
        clear hq
        obtain ⟨f0,f1,f2,f3,f4⟩:=f
        simp only [FileAt] at hfx
        obtain ⟨y0,y1,y2,y3,y4⟩:=hfx
        simp only at hqb
        go_wp2
        go_roundw
        case rel=>exact ⟨k + 1,true,An,n,cn,rfl,rfl,by go_num,by omega,⟨HN.out _ ((RowKit.Below.refl _ _).alloc (Nat.le_refl _) _)⟩⟩
        case measure=>simp [intOf];omega
       | true=>
        have HN:Hush (∀ wy w9 v',RowKit.Below wr.heap.size wr wy → wy.grownBy w9 (Value.slice An n cn).ownBlock → w9.ownsRow w5.heap.size 112 5 v' (n + 1) (cellsF acc ++ encF f) → InSt w5 num L (k + 1) true v' w9):=⟨fun wy w9 v' hb hg ho=>HK.out.miss HST.out.1 HST.out.2 HF.out (.inl rfl) hb hg (by rw [← HAN.out];exact ho)⟩
        clear hq
        obtain ⟨f0,f1,f2,f3,f4⟩:=f
        simp only [FileAt] at hfx
        obtain ⟨y0,y1,y2,y3,y4⟩:=hfx
        simp only at hqb
        have HBX:Hush (∀ o o2,RowKit.Below wr.heap.size wr ((wr.alloc o).alloc o2)):=⟨fun o o2=>((RowKit.Below.refl _ _).alloc (Nat.le_refl _) _).alloc (by rw [size_alloc];omega) _⟩
        have HSZ:Hush (w5.heap.size ≤ wr.heap.size):=⟨HK.out.below.size⟩
        have HOW:Hush (∀ o o2,((wr.alloc o).alloc o2).ownsRow w5.heap.size 112 5 (.slice An n cn) n (cellsF acc)):=⟨fun o o2=>by have:=ownsRow_keep HST.out.2 (HBX.out o o2);rwa [← HAN.out] at this⟩
        go_wp2_with (at_builtin;refine wpList_append_own_at _ rfl _ _ 80 rfl w5.heap.size 112 i0 (.agg #[.int .u64 0,.int .u64 0,.int .u64 0,.string ⟨#[]⟩,.string ⟨#[]⟩]) 5 56 Tryd.underlying80 hi hz0 hz1 hz2 rfl (by decide) (.slice An n cn) _ _ rfl (HOW.out _ _) ⟨_,0,none⟩ 1 1 (encF ⟨f0,f1,f2,f3,f4⟩) rfl rfl (five_newb _ ⟨f0,f1,f2,f3,f4⟩ 112 _ (by simp)) (encF_one _) (by unfold maxLen;omega) (by omega) (by rw [size_alloc,size_alloc];have:=HSZ.out;omega) ?_;intro v' w9 hown' hg' hnil hloc;obtain ⟨A9,c9,rfl⟩:=own_slice hown';have HNX:=Hush.mk (HN.out _ w9 _ (HBX.out _ _) hg' hown');clear hown' hg' hnil hloc)
        go_roundw
        case rel=>exact ⟨k + 1,true,A9,_,c9,rfl,rfl,by go_num,by omega,HNX⟩
        case measure=>simp [intOf];omega
      ·have hqb:(f.num == num) = false:=by simpa using hq
       have HQ:=Hush.mk hq
       have HN:Hush (∀ wy w9 v',RowKit.Below wr.heap.size wr wy → wy.grownBy w9 (Value.slice An n cn).ownBlock → w9.ownsRow w5.heap.size 112 5 v' (n + 1) (cellsF acc ++ encF f) → InSt w5 num L (k + 1) bb v' w9):=⟨fun wy w9 v' hb hg ho=>HK.out.miss HST.out.1 HST.out.2 HF.out (.inr HQ.out) hb hg (by rw [← HAN.out];exact ho)⟩
       clear hq
       obtain ⟨f0,f1,f2,f3,f4⟩:=f
       simp only [FileAt] at hfx
       obtain ⟨y0,y1,y2,y3,y4⟩:=hfx
       simp only at hqb
       have HBX:Hush (∀ o o2,RowKit.Below wr.heap.size wr ((wr.alloc o).alloc o2)):=⟨fun o o2=>((RowKit.Below.refl _ _).alloc (Nat.le_refl _) _).alloc (by rw [size_alloc];omega) _⟩
       have HSZ:Hush (w5.heap.size ≤ wr.heap.size):=⟨HK.out.below.size⟩
       have HOW:Hush (∀ o o2,((wr.alloc o).alloc o2).ownsRow w5.heap.size 112 5 (.slice An n cn) n (cellsF acc)):=⟨fun o o2=>by have:=ownsRow_keep HST.out.2 (HBX.out o o2);rwa [← HAN.out] at this⟩
       go_wp2_with (at_builtin;refine wpList_append_own_at _ rfl _ _ 80 rfl w5.heap.size 112 i0 (.agg #[.int .u64 0,.int .u64 0,.int .u64 0,.string ⟨#[]⟩,.string ⟨#[]⟩]) 5 56 Tryd.underlying80 hi hz0 hz1 hz2 rfl (by decide) (.slice An n cn) _ _ rfl (HOW.out _ _) ⟨_,0,none⟩ 1 1 (encF ⟨f0,f1,f2,f3,f4⟩) rfl rfl (five_newb _ ⟨f0,f1,f2,f3,f4⟩ 112 _ (by simp)) (encF_one _) (by unfold maxLen;omega) (by omega) (by rw [size_alloc,size_alloc];have:=HSZ.out;omega) ?_;intro v' w9 hown' hg' hnil hloc;obtain ⟨A9,c9,rfl⟩:=own_slice hown';have HNX:=Hush.mk (HN.out _ w9 _ (HBX.out _ _) hg' hown');clear hown' hg' hnil hloc)
       go_roundw
       case rel=>exact ⟨k + 1,bb,A9,_,c9,rfl,rfl,by go_num,by omega,HNX⟩
       case measure=>simp [intOf];omega
     ·obtain rfl:k = L.length:=by omega
      have b6:=H5.out.1.trans (HK.out.below.mono H5.out.1.size)
      have HB6:=Hush.mk b6
      obtain ⟨acc,htj,hown⟩:=HK.out.st
      have hstop:=htj.stop
      have hnn:=own_n hown
      have hrow:=own112_files hown
      obtain ⟨hl1,hl2,hl3⟩:=HLL.out
      cases bb with
      | false=>
       have hR:R = (noneF,16):=by rw [HR.out,HGO.out.1 (by rw [← hl1,hstop];rfl)]
       have hs6:=HS.out.step b6
       obtain ⟨h4,hap⟩:=HND.out wr hs6.below (by have:=hs6.r;unfold nilS at this;exact this) 16 hR
       have r4:=hs6.r
       have r0:=r4.cell 0 (by omega)
       have r1:=r4.cell 1 (by omega)
       have r2:=r4.cell 2 (by omega)
       have r3:=r4.cell 3 (by omega)
       have f0:=r4.frozen 0
       have f1:=r4.frozen 1
       have f2:=r4.frozen 2
       have f3:=r4.frozen 3
       unfold nilS at r0 r1 r2 r3
       have H4:=Hush.mk h4
       have HAP:=Hush.mk hap
       clear h4 hap hs6 r4 hR htj hown hstop hnn hrow hl1 hl2 hl3 b6
       go_wp2
       have h4:=H4.out
       have hap:=HAP.out
       generalize ((((wr.setCell ⟨w.heap.size + 1 + 1,0,none⟩ (.slice none 0 0)).setCell ⟨w.heap.size + 1 + 1,1,none⟩ (.slice none 0 0)).setCell ⟨w.heap.size + 1 + 1,2,none⟩ (.slice none 0 0)).setCell ⟨w.heap.size + 1 + 1,3,none⟩ (.slice none 0 0)) = wF at h4 hap ⊢
       have k0:=h4.cell 0 (by omega)
       have k1:=h4.cell 1 (by omega)
       have k2:=h4.cell 2 (by omega)
       have k3:=h4.cell 3 (by omega)
       exact bodyPost_ret (v:=.tuple #[.agg #[.slice none 0 0,.slice none 0 0,.slice none 0 0,.slice none 0 0],.int .i64 16]) (by simp [results,Tryd.results89,go_sem,k0,k1,k2,k3]) rfl hap
      | true=>
       have hs6:=HS.out.step b6
       have HNX:Hush (RgJ w cv gv G F (j + 1) (wr.setCell ⟨w.heap.size,lv,none⟩ (.slice An n cn))):=⟨by
        obtain ⟨A9,c9,h1,h2,h3⟩:=hrow
        injection h1 with h1 h4 h5
        subst h1
        subst h5
        have:=hs6.set hlv h2 h3
        rw [← hnn] at this
        refine ⟨_,_,_,this,HGO.out.2 acc (by rw [← hl1,hstop];rfl),fun i=>?_⟩
        unfold upd
        by_cases e:i = lv
        ·subst e;rw [if_pos rfl];exact (takeOut_sub _ _ _ (show takeOut num (F' i) = some acc by rw [← hl1,hstop];rfl)).trans (HSUB.out _)
        ·rw [if_neg e];exact HSUB.out i⟩
       have g0:=(HK.out.below.cell (p:=⟨gb,0,none⟩) H5.out.2.2.2.2).trans H5.out.2.1
       have g1:=hs6.four.cell lv hlv
       have g2:=hs6.four.frozen lv
       rw [← hl1,← hl2,← hl3] at g1
       clear hs6 htj hown hstop hnn hrow hl1 hl2 hl3 b6
       go_wp2
       go_roundw
       case rel=>exact ⟨j + 1,by go_num,by omega,HNX⟩
       case measure=>simp [intOf];omega
   ·obtain rfl:j = G.length:=by omega
    obtain ⟨F1,A1,c1,hst,hgo,hsub⟩:=HJ.out
    rw [List.drop_length] at hgo
    have HGO:Hush (R = if rightF (comeWith C F1) then (comeWith C F1,0) else (noneF,20)):=⟨by rw [HR.out,hgo];rfl⟩
    have HWF1:Hush (WfF F1):=⟨fun i hi f hf=>HWF.out i hi f ((hsub i).subset hf)⟩
    have HC0:Hush (RcJ w cv gv C F1 0 wr):=⟨F1,A1,c1,hst,by rw [List.drop_zero],fun i=>Nat.le_refl _⟩
    have HL1:Hush (∀ i,i < 4 → (F1 i).length ≤ 100000):=⟨fun i hi=>Nat.le_trans (hsub i).length_le (HLEN.out i hi)⟩
    have cc3:=hst.come
    rw [HCV.out] at cc3
    clear hst hgo hsub HJ HR HGR HLG HG2 HLEN HWF H1 H2
    go_wp2
    clear cc3
    go_loopw [64] (fun iv wx=>∃ k:Nat,iv = .int .i64 k ∧ k ≤ C.length ∧ Hush (RcJ w cv gv C F1 k wx)) (fun iv _=>C.length - (intOf iv).toNat)
    case atStart=>exact ⟨0,by go_num,by omega,HC0⟩
    case round=>
     obtain ⟨k,rfl,hk,HK⟩:=hrel
     by_cases hlt2:k < C.length
     ·have hlt2z:(k:Int) < (C.length:Int):=by omega
      obtain ⟨kb,hkb⟩:∃ kb:Int,kb = 200:=⟨_,rfl⟩
      have hkb1:(k:Int) < kb:=by have:=HC2.out;omega
      have hkb2:kb ≤ 9000000:=by omega
      clear hkb
      obtain ⟨⟨cl,x⟩,hg⟩:∃ x,C[k]? = some x:=⟨_,List.getElem?_eq_getElem hlt2⟩
      obtain ⟨lv,hlv,hgl⟩:=HLC.out _ (List.mem_of_getElem? hg)
      simp only at hgl
      subst hgl
      obtain ⟨F',A',c',hst,hco,hlen⟩:=HK.out.come hg
      obtain ⟨ad,rfl,hrow⟩:=HCR.out wr hst.below (by omega)
      have hx:=hrow k _ hg
      obtain ⟨y0,y1,y2,y3,y4⟩:=x
      simp only [ComeAt] at hx
      obtain ⟨x0,x1,x2,x3,x4,x5⟩:=hx
      have hlvz:(lv:Int) < 4:=by omega
      have hlv0:(0:Int) ≤ (lv:Int):=by omega
      obtain ⟨L,hL⟩:∃ L,L = F' lv:=⟨_,rfl⟩
      obtain ⟨AL,hAL⟩:∃ A,A = A' lv:=⟨_,rfl⟩
      obtain ⟨cL,hcL⟩:∃ c,c = c' lv:=⟨_,rfl⟩
      have hrows:=hst.rows lv hlv
      have hfv:=hst.four.cell lv hlv
      rw [← hL,← hAL,← hcL] at hrows
      rw [← hL,← hAL,← hcL] at hfv
      have hLn:L.length ≤ 500000:=by rw [hL];have:=hlen lv;have:=HL1.out lv hlv;have:=HC2.out;omega
      obtain ⟨ab,hab⟩:∃ ab,ab = wr.heap.size:=⟨_,rfl⟩
      obtain ⟨w5,hw5⟩:∃ w5,w5 = wr.alloc (.cells #[.int .i64 lv,.int .u64 y0,.int .u64 y1,.int .u64 y2,.string y3,.string y4] 114):=⟨_,rfl⟩
      have b5:RowKit.Below wr.heap.size wr w5:=by rw [hw5];exact (RowKit.Below.refl _ _).alloc (Nat.le_refl _) _
      have six:∀ i u,(#[Value.int .i64 lv,.int .u64 y0,.int .u64 y1,.int .u64 y2,.string y3,.string y4]:Array Value)[i]? = some u → w5.cell? ⟨ab,i,none⟩ = some u:=fun i u h=>by
       have e:=six_at wr _ _ _ _ _ _ 114 ab hab i u h
       rwa [← hw5] at e
      have H5:Hush (RowKit.Below wr.heap.size wr w5 ∧ (w5.cell? ⟨ab,0,none⟩ = some (.int .i64 lv) ∧ w5.cell? ⟨ab,1,none⟩ = some (.int .u64 y0) ∧ w5.cell? ⟨ab,2,none⟩ = some (.int .u64 y1) ∧ w5.cell? ⟨ab,3,none⟩ = some (.int .u64 y2) ∧ w5.cell? ⟨ab,4,none⟩ = some (.string y3) ∧ w5.cell? ⟨ab,5,none⟩ = some (.string y4)) ∧ w5.cell? ⟨w.heap.size,lv,none⟩ = some (.slice AL L.length cL) ∧ ab < w5.heap.size ∧ w.heap.size ≠ ab):=
       ⟨b5,⟨six 0 _ rfl,six 1 _ rfl,six 2 _ rfl,six 3 _ rfl,six 4 _ rfl,six 5 _ rfl⟩,(b5.cell (World.block_lt_of_cell? wr _ hfv)).trans hfv,by rw [hab,hw5,size_alloc];omega,by rw [hab];have:=hst.size;omega⟩
      have HCW:Hush (Calls Tryd.prog 129 #[.int .i64 lv,.slice AL L.length cL,.agg #[.int .u64 y0,.int .u64 y1,.int .u64 y2,.string y3,.string y4]] w5.drew fun e w'=>∃ An n cn,e = .returned (.slice An n cn) ∧
        (w'.cell? ⟨ab,0,none⟩ = some (.int .i64 lv) ∧ w'.cell? ⟨ab,1,none⟩ = some (.int .u64 y0) ∧ w'.cell? ⟨ab,2,none⟩ = some (.int .u64 y1) ∧ w'.cell? ⟨ab,3,none⟩ = some (.int .u64 y2) ∧ w'.cell? ⟨ab,4,none⟩ = some (.string y3) ∧ w'.cell? ⟨ab,5,none⟩ = some (.string y4)) ∧
        (∀ v,(w'.setCell ⟨w.heap.size,lv,none⟩ v).cell? ⟨ab,0,none⟩ = some (.int .i64 lv) ∧ (w'.setCell ⟨w.heap.size,lv,none⟩ v).cell? ⟨ab,1,none⟩ = some (.int .u64 y0) ∧ (w'.setCell ⟨w.heap.size,lv,none⟩ v).cell? ⟨ab,2,none⟩ = some (.int .u64 y1) ∧ (w'.setCell ⟨w.heap.size,lv,none⟩ v).cell? ⟨ab,3,none⟩ = some (.int .u64 y2) ∧ (w'.setCell ⟨w.heap.size,lv,none⟩ v).cell? ⟨ab,4,none⟩ = some (.string y3) ∧ (w'.setCell ⟨w.heap.size,lv,none⟩ v).cell? ⟨ab,5,none⟩ = some (.string y4)) ∧
        w'.cell? ⟨w.heap.size,lv,none⟩ = some (.slice AL L.length cL) ∧ w'.frozen? ⟨w.heap.size,lv,none⟩ = false ∧ Hush (RcJ w cv gv C F1 (k + 1) (w'.setCell ⟨w.heap.size,lv,none⟩ (.slice An n cn)))):=⟨by
       have hf:FilesAt w5.drew AL L:=(hrows.1.below b5).below ((RowKit.Below.refl _ _).drew)
       refine (with_on lv AL L cL ⟨y0,y1,y2,y3,y4⟩ w5.drew hf hLn hrows.2).mono fun e w' ⟨⟨v,h1,h2⟩,h3⟩=>?_
       obtain ⟨A9,c9,rfl,h4,h5⟩:=h2
       have h3':RowKit.Below w5.heap.size w5 w':=⟨h3.os,h3.tape,h3.output,h3.size,h3.block⟩
       have up:∀ p v,w5.cell? p = some v → w'.cell? p = some v:=fun p v e=>(h3'.cell (World.block_lt_of_cell? w5 p e)).trans e
       obtain ⟨_,⟨q0,q1,q2,q3,q4,q5⟩,q6,q7,q8⟩:=H5.out
       have fr:∀ v i u,w5.cell? ⟨ab,i,none⟩ = some u → (w'.setCell ⟨w.heap.size,lv,none⟩ v).cell? ⟨ab,i,none⟩ = some u:=fun v i u h=>(World.cell?_of_block (a:=⟨ab,i,none⟩) (Below.heap_setCell w' ⟨w.heap.size,lv,none⟩ v ab (fun e=>q8 e.symm))).trans (up _ _ h)
       have hs:=(hst.step b5).step h3'
       refine ⟨A9,_,c9,h1,⟨up _ _ q0,up _ _ q1,up _ _ q2,up _ _ q3,up _ _ q4,up _ _ q5⟩,fun v=>⟨fr v 0 _ q0,fr v 1 _ q1,fr v 2 _ q2,fr v 3 _ q3,fr v 4 _ q4,fr v 5 _ q5⟩,up _ _ q6,hs.four.frozen lv,⟨?_⟩⟩
       have hz:=hs.set hlv h4 h5
       rw [hL] at hz ⊢
       exact ⟨_,_,_,hz,hco,updW_len hlen⟩⟩
      clear hrow hg hst hco hlen HK hL hAL hcL hrows hfv b5 six hLn
      go_wp2_with fail
      rw [← hw5,← hab]
      clear hw5 hab x0 x1 x2 x3 x4 x5
      have HS0:Hush (w5.drew.cell? ⟨ab,0,none⟩ = some (.int .i64 lv) ∧ w5.drew.cell? ⟨ab,1,none⟩ = some (.int .u64 y0) ∧ w5.drew.cell? ⟨ab,2,none⟩ = some (.int .u64 y1) ∧ w5.drew.cell? ⟨ab,3,none⟩ = some (.int .u64 y2) ∧ w5.drew.cell? ⟨ab,4,none⟩ = some (.string y3) ∧ w5.drew.cell? ⟨ab,5,none⟩ = some (.string y4)):=⟨H5.out.2.1⟩
      have z6:w5.drew.cell? ⟨w.heap.size,lv,none⟩ = some (.slice AL L.length cL):=H5.out.2.2.1
      obtain ⟨a0,a1,a2,a3,a4,a5⟩:=HS0.out
      go_region_with (first | (go_at_call 129;refine HCW.out.mono ?_;rintro e w7 ⟨An,n,cn,rfl,⟨b0,b1,b2,b3,b4,b5⟩,hs8,v1,v2,HNX⟩;have HS8:=Hush.mk hs8;clear hs8))
      all_goals
       go_wp2
       go_roundw
       case rel=>exact ⟨k + 1,by go_num,by omega,HNX⟩
       case measure=>simp [intOf];omega
     ·obtain rfl:k = C.length:=by omega
      obtain ⟨F',A2,c2,hst,hco,hlen⟩:=HK.out
      rw [List.drop_length] at hco
      have hco':comeWith C F1 = F':=hco
      have hlen2:∀ i,i < 4 → (F' i).length ≤ 1000000:=fun i hi=>by have:=hlen i;have:=HL1.out i hi;have:=HC2.out;omega
      have hwf:WfF F':=fun i hi f hf=>by
       rw [← hco'] at hf
       have hp:(comeWith C F1 i).Perm (comeApp C F1 i):=come_perm C F1 F1 i (fun _=>List.Perm.refl _)
       exact comeApp_wf HWF1.out HCW.out i hi f (hp.mem_iff.1 hf)
      have HRI:Hush (Calls Tryd.prog 45 #[.agg #[.slice (A2 0) (F' 0).length (c2 0),.slice (A2 1) (F' 1).length (c2 1),.slice (A2 2) (F' 2).length (c2 2),.slice (A2 3) (F' 3).length (c2 3)]] wr fun e w'=>e = .returned (.bool (rightF F')) ∧ RowKit.Below wr.heap.size wr w'):=
       ⟨refRight_on _ _ _ _ _ _ _ _ _ _ _ _ wr ⟨(hst.rows 0 (by omega)).1,hlen2 0 (by omega),hwf 0 (by omega)⟩ ⟨(hst.rows 1 (by omega)).1,hlen2 1 (by omega),hwf 1 (by omega)⟩ ⟨(hst.rows 2 (by omega)).1,hlen2 2 (by omega),hwf 2 (by omega)⟩ ⟨(hst.rows 3 (by omega)).1,hlen2 3 (by omega),hwf 3 (by omega)⟩⟩
      have g0:=hst.four.cell 0 (by omega)
      have g1:=hst.four.cell 1 (by omega)
      have g2:=hst.four.cell 2 (by omega)
      have g3:=hst.four.cell 3 (by omega)
      have HST:=Hush.mk hst
      have hgo:=HGO.out
      rw [hco'] at hgo
      have HG:=Hush.mk hgo
      clear hgo hwf hlen2 hlen hco hco' hst HK HC0 HGO HL1 HC2 HCR HLC HCW HWF1
      by_cases hr:rightF F' = true
      ·rw [hr] at HRI
       have HRR:Hush (R = (F',0)):=⟨by rw [HG.out,hr,if_pos rfl]⟩
       clear hr
       go_wp2_with (go_at_call 45;refine HRI.out.mono ?_;rintro e w9 ⟨rfl,hb9⟩;have HB9:=Hush.mk hb9;have g0:=(hb9.cell (World.block_lt_of_cell? wr _ g0)).trans g0;have g1:=(hb9.cell (World.block_lt_of_cell? wr _ g1)).trans g1;have g2:=(hb9.cell (World.block_lt_of_cell? wr _ g2)).trans g2;have g3:=(hb9.cell (World.block_lt_of_cell? wr _ g3)).trans g3;have r4:=HST.out.r.below hb9;have r0:=r4.cell 0 (by omega);have r1:=r4.cell 1 (by omega);have r2:=r4.cell 2 (by omega);have r3:=r4.cell 3 (by omega);have f0:=r4.frozen 0;have f1:=r4.frozen 1;have f2:=r4.frozen 2;have f3:=r4.frozen 3;unfold nilS at r0 r1 r2 r3;clear hb9 r4)
       have HFF:Hush (∀ wF,wF = ((((w9.setCell ⟨w.heap.size + 1 + 1,0,none⟩ (.slice (A2 0) (F' 0).length (c2 0))).setCell ⟨w.heap.size + 1 + 1,1,none⟩ (.slice (A2 1) (F' 1).length (c2 1))).setCell ⟨w.heap.size + 1 + 1,2,none⟩ (.slice (A2 2) (F' 2).length (c2 2))).setCell ⟨w.heap.size + 1 + 1,3,none⟩ (.slice (A2 3) (F' 3).length (c2 3))) →
         (wF.cell? ⟨w.heap.size + 1 + 1,0,none⟩ = some (.slice (A2 0) (F' 0).length (c2 0)) ∧ wF.cell? ⟨w.heap.size + 1 + 1,1,none⟩ = some (.slice (A2 1) (F' 1).length (c2 1)) ∧ wF.cell? ⟨w.heap.size + 1 + 1,2,none⟩ = some (.slice (A2 2) (F' 2).length (c2 2)) ∧ wF.cell? ⟨w.heap.size + 1 + 1,3,none⟩ = some (.slice (A2 3) (F' 3).length (c2 3))) ∧
         RaPost w R (.returned (.tuple #[.agg #[.slice (A2 0) (F' 0).length (c2 0),.slice (A2 1) (F' 1).length (c2 1),.slice (A2 2) (F' 2).length (c2 2),.slice (A2 3) (F' 3).length (c2 3)],.int .i64 0])) wF):=⟨fun wF hF=>by
        have h9:=HST.out.step HB9.out
        have k:=four_sets h9.r (.slice (A2 0) (F' 0).length (c2 0)) (.slice (A2 1) (F' 1).length (c2 1)) (.slice (A2 2) (F' 2).length (c2 2)) (.slice (A2 3) (F' 3).length (c2 3))
        have k0:=k.cell 0 (by omega)
        have k1:=k.cell 1 (by omega)
        have k2:=k.cell 2 (by omega)
        have k3:=k.cell 3 (by omega)
        simp only [if_true,Nat.one_ne_zero,if_false,(by decide:¬ (2:Nat) = 0),(by decide:¬ (2:Nat) = 1),(by decide:¬ (3:Nat) = 0),(by decide:¬ (3:Nat) = 1),(by decide:¬ (3:Nat) = 2)] at k0 k1 k2 k3
        have hfs:∀ B L,FilesAt w9 B L → FilesAt wF B L:=fun B L hB=>by
         have s0:∀ i,i < 4 → ∃ A n c,(fun _:Nat=>nilS) i = Value.slice A n c:=fun i _=>⟨none,0,0,rfl⟩
         have sl:∀ (v:Value) (f:Nat → Value) (k:Nat),(∃ A n c,v = Value.slice A n c) → (∀ i,i < 4 → ∃ A n c,f i = Value.slice A n c) → ∀ i,i < 4 → ∃ A n c,(if i = k then v else f i) = Value.slice A n c:=fun v f k hv hf i hi=>by
          split
          ·exact hv
          ·exact hf i hi
         have q0:=h9.r
         have q1:=q0.set 0 (by omega) (.slice (A2 0) (F' 0).length (c2 0))
         have q2:=q1.set 1 (by omega) (.slice (A2 1) (F' 1).length (c2 1))
         have q3:=q2.set 2 (by omega) (.slice (A2 2) (F' 2).length (c2 2))
         have s1:=sl (.slice (A2 0) (F' 0).length (c2 0)) _ 0 ⟨_,_,_,rfl⟩ s0
         have s2:=sl (.slice (A2 1) (F' 1).length (c2 1)) _ 1 ⟨_,_,_,rfl⟩ s1
         have s3:=sl (.slice (A2 2) (F' 2).length (c2 2)) _ 2 ⟨_,_,_,rfl⟩ s2
         rw [hF]
         exact filesAt_far (filesAt_far (filesAt_far (filesAt_far hB (a:=⟨w.heap.size + 1 + 1,0,none⟩) rfl q0 s0 _) (a:=⟨w.heap.size + 1 + 1,1,none⟩) rfl q1 s1 _) (a:=⟨w.heap.size + 1 + 1,2,none⟩) rfl q2 s2 _) (a:=⟨w.heap.size + 1 + 1,3,none⟩) rfl q3 s3 _
        have hb:=below_sets h9.below (b:=w.heap.size + 1 + 1) (by omega) (.slice (A2 0) (F' 0).length (c2 0)) (.slice (A2 1) (F' 1).length (c2 1)) (.slice (A2 2) (F' 2).length (c2 2)) (.slice (A2 3) (F' 3).length (c2 3))
        rw [← hF] at k0 k1 k2 k3 hb
        rw [HRR.out]
        exact ⟨⟨k0,k1,k2,k3⟩,A2,c2,rfl,fun i hi=>⟨hfs _ _ (h9.rows i hi).1,(h9.rows i hi).2⟩,hb⟩⟩
       obtain ⟨wF,hwF⟩:∃ wF,wF = ((((w9.setCell ⟨w.heap.size + 1 + 1,0,none⟩ (.slice (A2 0) (F' 0).length (c2 0))).setCell ⟨w.heap.size + 1 + 1,1,none⟩ (.slice (A2 1) (F' 1).length (c2 1))).setCell ⟨w.heap.size + 1 + 1,2,none⟩ (.slice (A2 2) (F' 2).length (c2 2))).setCell ⟨w.heap.size + 1 + 1,3,none⟩ (.slice (A2 3) (F' 3).length (c2 3))):=⟨_,rfl⟩
       obtain ⟨⟨k0,k1,k2,k3⟩,hap⟩:=HFF.out wF hwF
       rw [← hwF]
       exact bodyPost_ret (v:=.tuple #[.agg #[.slice (A2 0) (F' 0).length (c2 0),.slice (A2 1) (F' 1).length (c2 1),.slice (A2 2) (F' 2).length (c2 2),.slice (A2 3) (F' 3).length (c2 3)],.int .i64 0]) (by simp [results,Tryd.results89,go_sem,k0,k1,k2,k3]) rfl hap
      ·have hr':rightF F' = false:=by simpa using hr
       rw [hr'] at HRI
       have HRR:Hush (R = (noneF,20)):=⟨by rw [HG.out,hr',if_neg (by simp)]⟩
       clear hr hr'
       go_wp2_with (go_at_call 45;refine HRI.out.mono ?_;rintro e w9 ⟨rfl,hb9⟩;have HB9:=Hush.mk hb9;have r4:=HST.out.r.below hb9;have r0:=r4.cell 0 (by omega);have r1:=r4.cell 1 (by omega);have r2:=r4.cell 2 (by omega);have r3:=r4.cell 3 (by omega);have f0:=r4.frozen 0;have f1:=r4.frozen 1;have f2:=r4.frozen 2;have f3:=r4.frozen 3;unfold nilS at r0 r1 r2 r3;clear hb9 r4)
       obtain ⟨h4,hap⟩:=HND.out w9 (HST.out.below.trans (HB9.out.mono HST.out.below.size)) (by have:=HST.out.r.below HB9.out;unfold nilS at this;exact this) 20 HRR.out
       generalize ((((w9.setCell ⟨w.heap.size + 1 + 1,0,none⟩ (.slice none 0 0)).setCell ⟨w.heap.size + 1 + 1,1,none⟩ (.slice none 0 0)).setCell ⟨w.heap.size + 1 + 1,2,none⟩ (.slice none 0 0)).setCell ⟨w.heap.size + 1 + 1,3,none⟩ (.slice none 0 0)) = wF at h4 hap ⊢
       have k0:=h4.cell 0 (by omega)
       have k1:=h4.cell 1 (by omega)
       have k2:=h4.cell 2 (by omega)
       have k3:=h4.cell 3 (by omega)
       exact bodyPost_ret (v:=.tuple #[.agg #[.slice none 0 0,.slice none 0 0,.slice none 0 0,.slice none 0 0],.int .i64 20]) (by simp [results,Tryd.results89,go_sem,k0,k1,k2,k3]) rfl hap
end Go.Proofs.YteilnbnnhocciaaDoor.V

/-! V43 -/
namespace Go.Proofs.YteilnbnnhocciaaDoor.V
open Go.Proofs Go.Sort Go.Lib Go.RowKit Go.BigFrame Go.Proofs.YteilnbnnhocciaaDoorM Go.Proofs.YteilnbnnhocciaaDoorW.PrintWords Go.Proofs.YteilnbnnhocciaaDoorW.PrintLast Go.Proofs.YteilnbnnhocciaaDoorW.PrintMore Go.Proofs.YteilnbnnhocciaaDoor.KV
theorem to_on (a b d:Int) (CA GA:Option Addr) (cc gc:Nat) (C:List S107) (G:List S111) (w:World) (hC:Kd.C k107 w CA C.length C) (hcc:C.length ≤ cc) (hG:Kd.C k111 w GA G.length G) (hgc:G.length ≤ gc) (h1:C.length ≤ 1000) (h2:G.length ≤ 1000) :
  Calls Tryd.prog 16 #[.agg #[.int .u64 a,.int .u64 b,.int .u64 d,.slice CA C.length cc,.slice GA G.length gc]] w fun e w'=>(∃ CA' cc' GA' gc',e = .returned (.agg #[.int .u64 a,.int .u64 b,.int .u64 d,.slice CA' C.length cc',.slice GA' G.length gc']) ∧
   Kd.C k114 w' CA' (C.map c107).length (C.map c107) ∧ C.length ≤ cc' ∧ Kd.C k115 w' GA' (G.map c111).length (G.map c111) ∧ G.length ≤ gc') ∧ RowKit.Below w.heap.size w w':=by
 refine (bourselaw12_To.calls 3000 a b d CA cc C GA gc G a b d (C.map c107) (G.map c111) w hC hcc hG hgc (to_eq 3000 a b d C G (by omega) (by omega) (by omega))).mono fun e w' ⟨v3,v4,he,hR3,hR4,hb⟩=>⟨?_,hb⟩
 obtain ⟨CA',cc',rfl,hle,hC'⟩:=Kd.R_reads hR3
 obtain ⟨GA',gc',rfl,hle',hG'⟩:=Kd.R_reads hR4
 rw [List.length_map] at hle hle' he
 rw [List.length_map] at he
 exact ⟨CA',cc',GA',gc',he,hC',hle,hG',hle'⟩
def VerIn (w:World) (F:Nat → List FileV) (A:Nat → Option Addr) (c:Nat → Nat):Prop:=∀ i,i < 4 → FilesAt w (A i) (F i) ∧ (F i).length ≤ c i
theorem VerIn.below {w w':World} {F:Nat → List FileV} {A:Nat → Option Addr} {c:Nat → Nat} (h:VerIn w F A c) (hb:RowKit.Below w.heap.size w w'):VerIn w' F A c:=fun i hi=>⟨(h i hi).1.below hb,(h i hi).2⟩
theorem two_boxes (w:World) (s q:Nat → Value) (t t':TypeId):∀ w1,w1 = (w.alloc (.cells #[s 0,s 1,s 2,s 3] t)).alloc (.cells #[q 0,q 1,q 2,q 3] t') → Four w1 w.heap.size s ∧ Four w1 (w.heap.size + 1) q ∧ RowKit.Below w.heap.size w w1 ∧ w1.heap.size = w.heap.size + 2:=by
 intro w1 hw1
 have z1:=size_alloc w (.cells #[s 0,s 1,s 2,s 3] t)
 have z2:=size_alloc (w.alloc (.cells #[s 0,s 1,s 2,s 3] t)) (.cells #[q 0,q 1,q 2,q 3] t')
 have e1:=World.alloc_heap_new w (.cells #[s 0,s 1,s 2,s 3] t)
 have e2:=World.alloc_heap_new (w.alloc (.cells #[s 0,s 1,s 2,s 3] t)) (.cells #[q 0,q 1,q 2,q 3] t')
 rw [z1] at e2
 have f1:Four (w.alloc (.cells #[s 0,s 1,s 2,s 3] t)) w.heap.size s:=⟨t,e1⟩
 exact ⟨by rw [hw1];exact f1.below ((RowKit.Below.refl _ _).alloc (Nat.le_refl _) _),⟨t',by rw [hw1];exact e2⟩,by rw [hw1];exact ((RowKit.Below.refl _ _).alloc (Nat.le_refl _) _).alloc (by omega) _,by rw [hw1];omega⟩
set_option maxHeartbeats 8000000 in
set_option maxRecDepth 100000 in
theorem same_on (F:Nat → List FileV) (A A':Nat → Option Addr) (c c':Nat → Nat) (w:World) (h:VerIn w F A c) (h':VerIn w F A' c') (hl:∀ i,i < 4 → (F i).length ≤ 1000000) :
  Calls Tryd.prog 90 #[.agg #[.slice (A 0) (F 0).length (c 0),.slice (A 1) (F 1).length (c 1),.slice (A 2) (F 2).length (c 2),.slice (A 3) (F 3).length (c 3)],.agg #[.slice (A' 0) (F 0).length (c' 0),.slice (A' 1) (F 1).length (c' 1),.slice (A' 2) (F 2).length (c' 2),.slice (A' 3) (F 3).length (c' 3)]] w fun e w'=>e = .returned (.bool true) ∧ RowKit.Below w.heap.size w w':=by
 have mixed:Tryd.prog.follows .mixedOrders = true:=by kernel_rfl
 obtain ⟨w1,hw1⟩:∃ w1,w1 = (w.alloc (.cells #[.slice (A 0) (F 0).length (c 0),.slice (A 1) (F 1).length (c 1),.slice (A 2) (F 2).length (c 2),.slice (A 3) (F 3).length (c 3)] 79)).alloc (.cells #[.slice (A' 0) (F 0).length (c' 0),.slice (A' 1) (F 1).length (c' 1),.slice (A' 2) (F 2).length (c' 2),.slice (A' 3) (F 3).length (c' 3)] 83):=⟨_,rfl⟩
 have h2:=two_boxes w (fun i=>.slice (A i) (F i).length (c i)) (fun i=>.slice (A' i) (F i).length (c' i)) 79 83 w1 hw1
 have H2:=Hush.mk h2
 have HV:=Hush.mk h
 have HV':=Hush.mk h'
 have HL:=Hush.mk hl
 clear h2 h h' hl
 go_enter Tryd.func90,Tryd.ntmps90
 go_wp2
 rw [← hw1]
 clear hw1
 go_loopw [6] (fun iv wr=>∃ j:Nat,iv = .int .i64 j ∧ j ≤ 4 ∧ Hush (RowKit.Below w1.heap.size w1 wr)) (fun iv _=>4 - (intOf iv).toNat)
 case atStart=>exact ⟨0,by go_num,by omega,⟨RowKit.Below.refl _ _⟩⟩
 case round=>
  obtain ⟨j,rfl,hj4,HJ⟩:=hrel
  by_cases hlt:j < 4
  ·have hltz:(j:Int) < 4:=by omega
   have j0:(0:Int) ≤ (j:Int):=by omega
   obtain ⟨L,hL⟩:∃ L,L = F j:=⟨_,rfl⟩
   obtain ⟨B,hB⟩:∃ B,B = A j:=⟨_,rfl⟩
   obtain ⟨n,hn⟩:∃ n,n = c j:=⟨_,rfl⟩
   obtain ⟨B',hB'⟩:∃ B,B = A' j:=⟨_,rfl⟩
   obtain ⟨n',hn'⟩:∃ n,n = c' j:=⟨_,rfl⟩
   have q1:=(H2.out.1.below HJ.out).cell j hlt
   have q2:=(H2.out.2.1.below HJ.out).cell j hlt
   have bw:RowKit.Below w.heap.size w wr:=H2.out.2.2.1.trans (HJ.out.mono H2.out.2.2.1.size)
   have f1:=(HV.out j hlt).1.below bw
   have f2:=(HV'.out j hlt).1.below bw
   have l1:=(HV.out j hlt).2
   have l2:=(HV'.out j hlt).2
   have l3:=HL.out j hlt
   rw [← hL,← hB,← hn] at q1
   rw [← hL,← hB',← hn'] at q2
   rw [← hL,← hB] at f1
   rw [← hL,← hB'] at f2
   rw [← hL,← hn] at l1
   rw [← hL,← hn'] at l2
   rw [← hL] at l3
   have HS0:Hush (wr.drew.cell? ⟨w.heap.size,j,none⟩ = some (.slice B L.length n) ∧ wr.drew.cell? ⟨w.heap.size + 1,j,none⟩ = some (.slice B' L.length n')):=⟨⟨q1,q2⟩⟩
   have HC1:Hush (Calls Tryd.prog 43 #[.slice B L.length n] wr.drew fun e w'=>∃ A5 c5,e = .returned (.slice A5 L.length c5) ∧ Hush (w'.cell? ⟨w.heap.size,j,none⟩ = some (.slice B L.length n) ∧ w'.cell? ⟨w.heap.size + 1,j,none⟩ = some (.slice B' L.length n')) ∧
     Hush (Calls Tryd.prog 42 #[.slice A5 L.length c5,.slice B' L.length n'] w' fun e w''=>e = .returned (.bool true) ∧ Hush (w''.cell? ⟨w.heap.size,j,none⟩ = some (.slice B L.length n) ∧ w''.cell? ⟨w.heap.size + 1,j,none⟩ = some (.slice B' L.length n')) ∧ Hush (RowKit.Below w1.heap.size w1 w''))):=⟨by
    have:=bourselaw13_files.calls 1000001 B n (L.map s97) _ wr.drew (filesAt_to97 (f1.below ((RowKit.Below.refl _ _).drew)) l3) (by simpa using l1) (files_eq L l3)
    rw [List.length_map] at this
    refine this.mono fun e w' ⟨v,he,hR,hb⟩=>?_
    obtain ⟨A5,c5,rfl,hle,hC⟩:=Kd.R_reads hR
    rw [List.length_map] at hC hle
    have hb':RowKit.Below wr.heap.size wr w':=⟨hb.os,hb.tape,hb.output,hb.size,hb.block⟩
    have up:∀ p v,wr.cell? p = some v → w'.cell? p = some v:=fun p v e=>(hb'.cell (World.block_lt_of_cell? wr p e)).trans e
    refine ⟨A5,c5,by rw [he,List.length_map],⟨⟨up _ _ q1,up _ _ q2⟩⟩,⟨?_⟩⟩
    refine (refSame_on A5 B' L c5 n' w' (filesAt_of112 hC) (f2.below hb') l3 hle l2).mono fun e w'' ⟨h3,h4⟩=>⟨h3,?_,⟨?_⟩⟩
    ·have up2:∀ p v,w'.cell? p = some v → w''.cell? p = some v:=fun p v e=>(h4.cell (World.block_lt_of_cell? w' p e)).trans e
     exact ⟨up2 _ _ (up _ _ q1),up2 _ _ (up _ _ q2)⟩
    ·exact HJ.out.trans ((hb'.trans (h4.mono hb'.size)).mono HJ.out.size)⟩
   clear hL hB hn hB' hn' q1 q2 bw f1 f2 l1 l2 l3
   go_wp2_with fail
   go_region_held3 (fun w'=>w'.cell? ⟨w.heap.size,j,none⟩ = some (.slice B L.length n) ∧ w'.cell? ⟨w.heap.size + 1,j,none⟩ = some (.slice B' L.length n')) (first | with_reducible exact HS0.out | with_reducible exact HS5.out | with_reducible exact HS6.out)
    ((first | (go_at_call 43;refine HC1.out.mono ?_;rintro e w5 ⟨A5,c5,rfl,HS5,HC5⟩) | (go_at_call 42;refine HC5.out.mono ?_;rintro e w6 ⟨rfl,HS6,HB6⟩)))
   go_wp2
   go_roundw
   case rel=>exact ⟨j + 1,by go_num,by omega,HB6⟩
   case measure=>simp [intOf];omega
  ·obtain rfl:j = 4:=by omega
   have HB:Hush (RowKit.Below w.heap.size w wr):=⟨H2.out.2.2.1.trans (HJ.out.mono H2.out.2.2.1.size)⟩
   go_wp2
   go_ret
   exact ⟨rfl,HB.out⟩
end Go.Proofs.YteilnbnnhocciaaDoor.V

/-! V32 -/
namespace Go.Proofs.YteilnbnnhocciaaDoor.V
open Go.Proofs Go.Sort Go.Proofs.YteilnbnnhocciaaDoorM Go.Proofs.YteilnbnnhocciaaDoorW.PrintWords Go.Proofs.YteilnbnnhocciaaDoor.KV
def levelCome (lv:Nat) (L:List FileV):List S107:=L.map fun f=>⟨lv,s97 f⟩
def allCome (F:Nat → List FileV):List S107:=levelCome 0 (F 0) ++ levelCome 1 (F 1) ++ levelCome 2 (F 2) ++ levelCome 3 (F 3)
theorem of97_s97 (f:FileV):of97 (s97 f) = f:=rfl
theorem comeApp_append:∀ (a b:List S107) (F:Nat → List FileV),comeApp (a ++ b) F = comeApp b (comeApp a F)
 | [],b,F=>rfl
 | x :: r,b,F=>comeApp_append r b _
theorem comeApp_level (lv:Nat):∀ (L:List FileV) (F:Nat → List FileV),comeApp (levelCome lv L) F = upd F lv (F lv ++ L)
 | [],F=>by
  funext x
  unfold upd levelCome
  simp only [List.map_nil,comeApp,List.append_nil]
  split
  ·next e=>rw [e]
  ·rfl
 | f :: r,F=>by
  show comeApp (levelCome lv r) (upd F ((lv:Int)).toNat (F ((lv:Int)).toNat ++ [of97 (s97 f)])) = _
  rw [Int.toNat_natCast,comeApp_level lv r,of97_s97]
  funext x
  unfold upd
  split
  ·next e=>subst e;simp
  ·rfl
theorem comeApp_all (F:Nat → List FileV) (i:Nat) (hi:i < 4):comeApp (allCome F) noneF i = F i:=by
 unfold allCome
 rw [comeApp_append,comeApp_append,comeApp_append,comeApp_level,comeApp_level,comeApp_level,comeApp_level]
 have:i = 0 ∨ i = 1 ∨ i = 2 ∨ i = 3:=by omega
 rcases this with rfl | rfl | rfl | rfl <;> simp [upd,noneF]
theorem strict_sorted {lv:Nat} {L:List FileV} (h:Strict lv L):L.Pairwise fun a b=>ltOf (ordL lv) b a = false:=List.Pairwise.imp (fun hab=>(swo_ordL lv).asymmA hab) h
theorem firstWrong_ok:∀ (c:List S107),(∀ x ∈ c,edit_wrong.val x.f0 x.f1.f0 x.f1.f3 x.f1.f4 = 0) → edit_firstWrong c = 0
 | [],_=>rfl
 | x :: r,h=>by
  have h1:=h x List.mem_cons_self
  have h2:=firstWrong_ok r (fun y hy=>h y (List.mem_cons_of_mem _ hy))
  unfold edit_firstWrong
  simp [h1,h2]
theorem allCome_ok {F:Nat → List FileV} (hF:rightF F = true):∀ x ∈ allCome F,edit_wrong.val x.f0 x.f1.f0 x.f1.f3 x.f1.f4 = 0:=by
 intro x hx
 have k:∀ i,i < 4 → x ∈ levelCome i (F i) → edit_wrong.val x.f0 x.f1.f0 x.f1.f3 x.f1.f4 = 0:=fun i hi h=>by
  obtain ⟨f,hf,rfl⟩:=List.mem_map.1 h
  have:=(rightF_parts hF i hi).2.2 f hf
  unfold okB at this
  exact of_decide_eq_true this
 unfold allCome at hx
 simp only [List.mem_append] at hx
 rcases hx with ((hx | hx) | hx) | hx
 ·exact k 0 (by omega) hx
 ·exact k 1 (by omega) hx
 ·exact k 2 (by omega) hx
 ·exact k 3 (by omega) hx
theorem whole_again {F:Nat → List FileV} (hF:rightF F = true) (hl:(allCome F).length ≤ 200):(applyR (allCome F) [] noneF).2 = 0 ∧ ∀ i,i < 4 → (applyR (allCome F) [] noneF).1 i = F i:=by
 have hc:edit_Edit_Check.val (allCome F) [] = 0:=by
  unfold edit_Edit_Check.val
  rw [firstWrong_ok _ (allCome_ok hF)]
  simp
  try omega
 have h:=apply_law (allCome F) noneF F (fun i _=>List.Pairwise.nil) (fun i hi=>by rw [comeApp_all F i hi]) (fun i hi=>strict_sorted (rightF_parts hF i hi).1)
 unfold applyR
 rw [if_pos hc]
 simp only [goAll]
 rw [← h.1,hF,if_pos rfl]
 exact ⟨rfl,fun i hi=>(h.2 hF i hi).symm⟩
end Go.Proofs.YteilnbnnhocciaaDoor.V

/-! V44 -/
namespace Go.Proofs.YteilnbnnhocciaaDoor.V
open Go.Proofs Go.Sort Go.Lib Go.RowKit Go.BigFrame Go.Proofs.YteilnbnnhocciaaDoorM Go.Proofs.YteilnbnnhocciaaDoorW.PrintWords Go.Proofs.YteilnbnnhocciaaDoorW.PrintLast Go.Proofs.YteilnbnnhocciaaDoorW.PrintMore Go.Proofs.YteilnbnnhocciaaDoor.KV
def playOne (e:S26) (F:Nat → List FileV):Nat → List FileV:=if (applyR e.f3 e.f4 F).2 = 0 then (applyR e.f3 e.f4 F).1 else F
def playF:List S26 → (Nat → List FileV) → (Nat → List FileV)
 | [],F=>F
 | e :: r,F=>playF r (playOne e F)
structure GoodF (F:Nat → List FileV) (n:Nat):Prop where
 right:rightF F = true
 short:∀ i,(F i).length ≤ n
 wf:WfF F
theorem applyR_cases (c:List S107) (g:List S111) (F:Nat → List FileV) :
  ((applyR c g F).2 ≠ 0 ∧ (applyR c g F).1 = noneF) ∨ ∃ F1,edit_Edit_Check.val c g = 0 ∧ goAll g F = some F1 ∧ rightF (comeWith c F1) = true ∧ applyR c g F = (comeWith c F1,0):=by
 unfold applyR
 by_cases h:edit_Edit_Check.val c g = 0
 ·rw [if_pos h]
  cases hg:goAll g F with
  | none=>exact .inl ⟨by simp,rfl⟩
  | some F1=>
   by_cases hr:rightF (comeWith c F1) = true
   ·refine .inr ⟨F1,h,rfl,hr,?_⟩
    simp only [hr,if_true]
   ·simp only [hr]
    exact .inl ⟨by simp,rfl⟩
 ·rw [if_neg h]
  exact .inl ⟨h,rfl⟩
theorem comeWith_len (c:List S107) (F:Nat → List FileV) (i:Nat):(comeWith c F i).length ≤ (F i).length + c.length:=by
 have hp:(comeWith c F i).Perm (comeApp c F i):=come_perm c F F i (fun _=>List.Perm.refl _)
 rw [hp.length_eq]
 exact comeApp_len c F i
theorem GoodF.strict {F:Nat → List FileV} {n:Nat} (h:GoodF F n):∀ i,i < 4 → Strict i (F i):=fun i hi=>(rightF_parts h.right i hi).1
theorem GoodF.next {F:Nat → List FileV} {n m:Nat} {e:S26} (h:GoodF F n) (hc:e.f3.length ≤ m) (hw:∀ x ∈ e.f3,(Lit.int .u64 x.f1.f0).wf = true):GoodF (playOne e F) (n + m):=by
 unfold playOne
 rcases applyR_cases e.f3 e.f4 F with ⟨h1,h2⟩ | ⟨F1,h1,h2,h3,h4⟩
 ·rw [if_neg h1]
  exact ⟨h.right,fun i=>Nat.le_trans (h.short i) (by omega),h.wf⟩
 ·rw [h4,if_pos rfl]
  have hsub:=goAll_sub e.f4 F F1 h2
  refine ⟨h3,fun i=>?_,fun i hi f hf=>?_⟩
  ·have a:=comeWith_len e.f3 F1 i
   have b:=(hsub i).length_le
   have c:=h.short i
   show (comeWith e.f3 F1 i).length ≤ _
   omega
  ·have hp:(comeWith e.f3 F1 i).Perm (comeApp e.f3 F1 i):=come_perm e.f3 F1 F1 i (fun _=>List.Perm.refl _)
   exact comeApp_wf (fun j hj g hg=>h.wf j hj g ((hsub j).subset hg)) hw i hi f (hp.mem_iff.1 hf)
theorem GoodF.none:GoodF noneF 0:=⟨rightN,fun i=>Nat.le_refl _,fun i hi f hf=>by cases hf⟩
theorem GoodF.play {m:Nat}:∀ (l:List S26) {F:Nat → List FileV} {n:Nat},GoodF F n → (∀ e ∈ l,e.f3.length ≤ m) → (∀ e ∈ l,∀ x ∈ e.f3,(Lit.int .u64 x.f1.f0).wf = true) → GoodF (playF l F) (n + l.length * m)
 | [],F,n,h,_,_=>by simpa [playF] using h
 | e :: r,F,n,h,hc,hw=>by
  have h1:=h.next (hc e List.mem_cons_self) (hw e List.mem_cons_self)
  have h2:=GoodF.play r h1 (fun x hx=>hc x (List.mem_cons_of_mem _ hx)) (fun x hx=>hw x (List.mem_cons_of_mem _ hx))
  have e1:n + m + r.length * m = n + (e :: r).length * m:=by rw [List.length_cons,Nat.add_mul];omega
  rw [← e1]
  exact h2
theorem playF_take (l:List S26) (j:Nat) (e:S26) (h:l[j]? = some e) (F:Nat → List FileV):playF (l.take (j + 1)) F = playOne e (playF (l.take j) F):=by
 obtain ⟨q1,q2⟩:=List.getElem?_eq_some_iff.1 h
 rw [List.take_succ_eq_append_getElem q1,q2]
 have:∀ (a:List S26) (F:Nat → List FileV),playF (a ++ [e]) F = playOne e (playF a F):=by
  intro a
  induction a with
  | nil=>intro F;rfl
  | cons x r ih=>intro F;exact ih _
 exact this _ F
theorem rd26 {l:List S26} {i:Nat} (h:i < l.length):rd_T26 l (i:Int) = l[i]:=by simp [rd_T26,List.getD,h]
theorem light_l0:∀ (d k i:Nat) (l:List S26),i + d = l.length → (∀ e ∈ l,d + e.f3.length + 1 < k) → d < k → l.length ≤ 9223372036854775807 → (∀ e ∈ l,e.f3.length ≤ 9223372036854775807) →
  ∃ b,bourselaw13_light.l0 k l l (l.length:Int) (i:Int) = some b ∧ (b = true → (0 < d → l.length ≤ 30) ∧ ∀ e ∈ l.drop i,e.f3.length ≤ 60 ∧ e.f4.length ≤ 60):=by
 intro d
 induction d with
 | zero=>
  intro k i l hi hk hd hl hx
  obtain ⟨k,rfl⟩:∃ k',k = k' + 1:=⟨k - 1,by omega⟩
  rw [bourselaw13_light.l0,if_neg (by omega),List.drop_of_length_le (by omega)]
  exact ⟨_,rfl,fun _=>⟨fun h=>by omega,fun e he=>by cases he⟩⟩
 | succ d ih=>
  intro k i l hi hk hd hl hx
  obtain ⟨k,rfl⟩:∃ k',k = k' + 1:=⟨k - 1,by omega⟩
  have hlt:i < l.length:=by omega
  have hm:l[i] ∈ l:=List.getElem_mem hlt
  rw [bourselaw13_light.l0,if_pos (by omega),if_pos (by omega),if_pos (by omega)]
  by_cases h30:(l.length:Int) > 30
  ·rw [if_pos h30]
   exact ⟨_,rfl,fun h=>by cases h⟩
  rw [if_neg h30,rd26 hlt]
  obtain ⟨b,hb,hb2⟩:=light12_l0 l[i].f3.length k 0 l[i].f3 l[i].f0 l[i].f1 l[i].f2 l[i].f3 l[i].f4 (by omega) (by have:=hk _ hm;omega) (hx _ hm)
  have hb':bourselaw12_Light.f k l[i].f0 l[i].f1 l[i].f2 l[i].f3 l[i].f4 = some b:=hb
  rw [hb',Option.bind_some]
  cases b with
  | false=>rw [if_neg (by simp)];exact ⟨_,rfl,fun h=>by cases h⟩
  | true=>
   rw [if_pos rfl]
   by_cases h1:(l[i].f3.length:Int) > 60
   ·rw [if_pos h1];exact ⟨_,rfl,fun h=>by cases h⟩
   rw [if_neg h1]
   by_cases h2:(l[i].f4.length:Int) > 60
   ·rw [if_pos h2];exact ⟨_,rfl,fun h=>by cases h⟩
   rw [if_neg h2,wr1 hlt hl]
   obtain ⟨b,e1,e2⟩:=ih k (i + 1) l (by omega) (fun e he=>by have:=hk e he;omega) (by omega) hl hx
   refine ⟨b,e1,fun hbt=>⟨fun _=>by omega,fun e he=>?_⟩⟩
   rw [List.drop_eq_getElem_cons hlt] at he
   rcases List.mem_cons.1 he with rfl | he
   ·exact ⟨by omega,by omega⟩
   ·exact (e2 hbt).2 e he
def maxCome:List S26 → Nat
 | []=>0
 | e :: r=>max e.f3.length (maxCome r)
theorem maxCome_le:∀ (l:List S26) (e:S26),e ∈ l → e.f3.length ≤ maxCome l
 | x :: r,e,h=>by
  unfold maxCome
  rcases List.mem_cons.1 h with rfl | h
  ·omega
  ·have:=maxCome_le r e h;omega
theorem light_on (A:Option Addr) (c:Nat) (l:List S26) (w:World) (h:Kd.C k26 w A l.length l) (hc:l.length ≤ c) (hx:∀ e ∈ l,e.f3.length ≤ 9223372036854775807) :
  ∃ b,Calls Tryd.prog 38 #[.slice A l.length c] w (fun e w'=>e = .returned (.bool b) ∧ RowKit.Below w.heap.size w w') ∧ (b = true → l.length ≤ 30 ∧ ∀ e ∈ l,e.f3.length ≤ 60 ∧ e.f4.length ≤ 60):=by
 obtain ⟨b,h1,h2⟩:=light_l0 l.length (l.length + maxCome l + 3) 0 l (by omega) (fun e he=>by have:=maxCome_le l e he;omega) (by omega) (Kd.C_max h) hx
 refine ⟨b,bourselaw13_light.calls (l.length + maxCome l + 3) A c l b w h hc h1,fun hb=>?_⟩
 obtain ⟨h3,h4⟩:=h2 hb
 rw [List.drop_zero] at h4
 refine ⟨?_,h4⟩
 by_cases hz:0 < l.length
 ·exact h3 hz
 ·omega
end Go.Proofs.YteilnbnnhocciaaDoor.V

/-! V45 -/
namespace Go.Proofs.YteilnbnnhocciaaDoor.V
open Go.Proofs Go.Sort Go.Lib Go.RowKit Go.BigFrame Go.Proofs.YteilnbnnhocciaaDoorM Go.Proofs.YteilnbnnhocciaaDoorW.PrintWords Go.Proofs.YteilnbnnhocciaaDoorW.PrintLast Go.Proofs.YteilnbnnhocciaaDoorW.PrintMore Go.Proofs.YteilnbnnhocciaaDoor.KV
theorem apply_on (F:Nat → List FileV) (m:Nat) (A:Nat → Option Addr) (c:Nat → Nat) (a b d:Int) (CA GA:Option Addr) (cc gc:Nat) (C:List S107) (G:List S111) (w:World)
  (hin:∀ i,i < 4 → LAt w (A i) (F i) ∧ (F i).length ≤ c i) (hF:GoodF F m) (hm:m ≤ 100000) (hCw:∀ x ∈ C,(Lit.int .u64 x.f1.f0).wf = true)
  (hC:Kd.C k107 w CA C.length C) (hcc:C.length ≤ cc) (hG:Kd.C k111 w GA G.length G) (hgc:G.length ≤ gc) :
  Calls Tryd.prog 47 #[.agg #[.slice (A 0) (F 0).length (c 0),.slice (A 1) (F 1).length (c 1),.slice (A 2) (F 2).length (c 2),.slice (A 3) (F 3).length (c 3)],.agg #[.int .u64 a,.int .u64 b,.int .u64 d,.slice CA C.length cc,.slice GA G.length gc]] w (ApPost w (applyR C G F)):=by
 by_cases h:edit_Edit_Check.val C G = 0
 ·exact apply_good F A c a b d CA GA cc gc C G w (fun i hi=>⟨(hin i hi).1,Nat.le_trans (hF.short i) hm⟩) hF.strict hF.wf hCw hC hcc hG hgc h
 ·exact apply_bad F A c a b d CA GA cc gc C G w hC hcc hG hgc h
theorem refApply_good (F:Nat → List FileV) (m:Nat) (A:Nat → Option Addr) (c:Nat → Nat) (a b d:Int) (CA GA:Option Addr) (cc gc:Nat) (C:List S107) (G:List S111) (w:World)
  (hin:VerIn w F A c) (hF:GoodF F m) (hm:m ≤ 100000) (hCw:∀ x ∈ C,(Lit.int .u64 x.f1.f0).wf = true)
  (hC:Kd.C k114 w CA (C.map c107).length (C.map c107)) (hcc:C.length ≤ cc) (hG:Kd.C k115 w GA (G.map c111).length (G.map c111)) (hgc:G.length ≤ gc) :
  Calls Tryd.prog 89 #[.agg #[.slice (A 0) (F 0).length (c 0),.slice (A 1) (F 1).length (c 1),.slice (A 2) (F 2).length (c 2),.slice (A 3) (F 3).length (c 3)],.agg #[.int .u64 a,.int .u64 b,.int .u64 d,.slice CA C.length cc,.slice GA G.length gc]] w (RaPost w (applyR C G F)):=
 refApply_on F A c a b d CA GA cc gc C G w hin (fun i hi=>Nat.le_trans (hF.short i) hm) hF.wf hCw hC hcc hG hgc
structure PlSt (w:World) (F:Nat → List FileV) (A:Nat → Option Addr) (c:Nat → Nat) (A':Nat → Option Addr) (c':Nat → Nat) (W:World):Prop where
 v0:Four W w.heap.size (fun _=>nilS)
 q0:Four W (w.heap.size + 1) (fun _=>nilS)
 v:Four W (w.heap.size + 1 + 1) (fun i=>.slice (A i) (F i).length (c i))
 q:Four W (w.heap.size + 1 + 1 + 1) (fun i=>.slice (A' i) (F i).length (c' i))
 code:∀ i,i < 4 → LAt W (A i) (F i) ∧ (F i).length ≤ c i
 ref:VerIn W F A' c'
 below:RowKit.Below w.heap.size w W
 size:w.heap.size + 4 ≤ W.heap.size
theorem PlSt.step {w:World} {F:Nat → List FileV} {A A':Nat → Option Addr} {c c':Nat → Nat} {W W':World} (h:PlSt w F A c A' c' W) (hb:RowKit.Below W.heap.size W W'):PlSt w F A c A' c' W':=
 ⟨h.v0.below hb,h.q0.below hb,h.v.below hb,h.q.below hb,fun i hi=>⟨(h.code i hi).1.below hb,(h.code i hi).2⟩,h.ref.below hb,h.below.trans (hb.mono h.below.size),Nat.le_trans h.size hb.size⟩
theorem four_boxes (w:World) (t t':TypeId):∀ w1,w1 = (((w.alloc (.cells #[nilS,nilS,nilS,nilS] t)).alloc (.cells #[nilS,nilS,nilS,nilS] t')).alloc (.cells #[nilS,nilS,nilS,nilS] t)).alloc (.cells #[nilS,nilS,nilS,nilS] t') →
  PlSt w noneF (fun _=>none) (fun _=>0) (fun _=>none) (fun _=>0) w1:=by
 intro w1 hw1
 obtain ⟨a1,a2,a3,a4⟩:=two_boxes w (fun _=>nilS) (fun _=>nilS) t t' _ rfl
 obtain ⟨b1,b2,b3,b4⟩:=two_boxes ((w.alloc (.cells #[nilS,nilS,nilS,nilS] t)).alloc (.cells #[nilS,nilS,nilS,nilS] t')) (fun _=>nilS) (fun _=>nilS) t t' w1 hw1
 rw [a4] at b1 b2 b4
 exact ⟨a1.below b3,a2.below b3,b1,b2,fun i _=>⟨.inl ⟨rfl,rfl⟩,Nat.le_refl _⟩,fun i _=>⟨fun h=>by simp [noneF] at h,Nat.le_refl _⟩,a3.trans (b3.mono a3.size),by omega⟩
theorem five_box (W:World) (x0 x1 x2 x3 x4:Value) (t:TypeId) (b:Nat) (hb:b = W.heap.size) {W':World} (h:RowKit.Below (W.alloc (.cells #[x0,x1,x2,x3,x4] t)).heap.size (W.alloc (.cells #[x0,x1,x2,x3,x4] t)) W') :
  W'.cell? ⟨b,0,none⟩ = some x0 ∧ W'.cell? ⟨b,1,none⟩ = some x1 ∧ W'.cell? ⟨b,2,none⟩ = some x2 ∧ W'.cell? ⟨b,3,none⟩ = some x3 ∧ W'.cell? ⟨b,4,none⟩ = some x4:=by
 subst hb
 have e:=World.alloc_heap_new W (.cells #[x0,x1,x2,x3,x4] t)
 have e':W'.heap[W.heap.size]? = some (.cells #[x0,x1,x2,x3,x4] t):=(h.block _ (by rw [size_alloc];omega)).trans e
 simp only [World.cell?,e']
 exact ⟨rfl,rfl,rfl,rfl,rfl⟩
theorem below_alloc' {B:Nat} {a w:World} (h:RowKit.Below B a w) (hB:B ≤ a.heap.size) (o:Obj):RowKit.Below B a (w.alloc o):=h.alloc (Nat.le_trans hB h.size) o
theorem k26_row {w:World} {A:Option Addr} {l:List S26} {j:Nat} {e:S26} (h:Kd.C k26 w A l.length l) (he:l[j]? = some e):∃ ad A3 c3 A4 c4,A = some ad ∧ w.cell? (ad.add (j * 5)) = some (.int .u64 e.f0) ∧ w.cell? ⟨(ad.add (j * 5)).block,(ad.add (j * 5)).off + 1,none⟩ = some (.int .u64 e.f1) ∧ w.cell? ⟨(ad.add (j * 5)).block,(ad.add (j * 5)).off + 2,none⟩ = some (.int .u64 e.f2) ∧
  w.cell? ⟨(ad.add (j * 5)).block,(ad.add (j * 5)).off + 3,none⟩ = some (.slice A3 e.f3.length c3) ∧ w.cell? ⟨(ad.add (j * 5)).block,(ad.add (j * 5)).off + 4,none⟩ = some (.slice A4 e.f4.length c4) ∧ e.f3.length ≤ c3 ∧ k107.C w A3 e.f3.length e.f3 ∧ e.f4.length ≤ c4 ∧ k111.C w A4 e.f4.length e.f4:=by
 obtain ⟨q1,q2⟩:=List.getElem?_eq_some_iff.1 he
 have:=at_T26 h (j:Int) (by omega) (by omega)
 rw [Int.toNat_natCast,rd26 q1,q2] at this
 exact this
structure MidSt (w7:World) (F:Nat → List FileV) (rb:Nat) (wx:World):Prop where
 below:RowKit.Below w7.heap.size w7 wx
 new:w7.heap.size ≤ rb
 four:∃ A c,Four wx rb (fun i=>.slice (A i) (F i).length (c i)) ∧ VerIn wx F A c
theorem box_after {W W':World} {t:TypeId} (h:RowKit.Below (W.alloc (.cells #[.slice none 0 0,.slice none 0 0,.slice none 0 0,.slice none 0 0] t)).heap.size (W.alloc (.cells #[.slice none 0 0,.slice none 0 0,.slice none 0 0,.slice none 0 0] t)) W'):Four W' W.heap.size (fun _=>.slice none 0 0):=
 Four.below (f:=fun _=>.slice none 0 0) ⟨t,World.alloc_heap_new W _⟩ h
theorem box_afterD {W W':World} {t:TypeId} (h:RowKit.Below (W.alloc (.cells #[.slice none 0 0,.slice none 0 0,.slice none 0 0,.slice none 0 0] t)).drew.heap.size (W.alloc (.cells #[.slice none 0 0,.slice none 0 0,.slice none 0 0,.slice none 0 0] t)).drew W'):Four W' W.heap.size (fun _=>.slice none 0 0):=
 box_after (W:=W) (t:=t) ⟨h.os,h.tape,h.output,h.size,h.block⟩
def set4 (W:World) (b:Nat) (s:Nat → Value):World:=(((W.setCell ⟨b,0,none⟩ (s 0)).setCell ⟨b,1,none⟩ (s 1)).setCell ⟨b,2,none⟩ (s 2)).setCell ⟨b,3,none⟩ (s 3)
theorem set4_four {W:World} {b:Nat} {f s:Nat → Value} (h:Four W b f):Four (set4 W b s) b s:=by
 obtain ⟨t,h⟩:=four_sets h (s 0) (s 1) (s 2) (s 3)
 exact ⟨t,h⟩
theorem set4_block (W:World) (b:Nat) (s:Nat → Value) (k:Nat) (hk:k ≠ b):(set4 W b s).heap[k]? = W.heap[k]?:=by
 unfold set4
 rw [Below.heap_setCell _ ⟨b,3,none⟩ _ k hk,Below.heap_setCell _ ⟨b,2,none⟩ _ k hk,Below.heap_setCell _ ⟨b,1,none⟩ _ k hk,Below.heap_setCell _ ⟨b,0,none⟩ _ k hk]
theorem set4_size (W:World) (b:Nat) (s:Nat → Value):(set4 W b s).heap.size = W.heap.size:=by
 unfold set4
 rw [World.size_setCell,World.size_setCell,World.size_setCell,World.size_setCell]
theorem set4_below {B b:Nat} {a w:World} (h:RowKit.Below B a w) (hb:B ≤ b) (s:Nat → Value):RowKit.Below B a (set4 w b s):=below_sets h hb _ _ _ _
theorem set4_files {W:World} {b:Nat} {f s:Nat → Value} (h:Four W b f) (hf:∀ i,i < 4 → ∃ A n c,f i = Value.slice A n c) {A:Option Addr} {L:List FileV} (hA:FilesAt W A L):FilesAt (set4 W b s) A L:=fun h0=>by
 obtain ⟨ad,e,hc⟩:=hA h0
 refine ⟨ad,e,fun i x hx=>(hc i x hx).of_block (set4_block W b s _ fun e2=>h.no_int hf e2 (hc i x hx).1)⟩
theorem set4_lat {W:World} {b:Nat} {f s:Nat → Value} (h:Four W b f) (hf:∀ i,i < 4 → ∃ A n c,f i = Value.slice A n c) {A:Option Addr} {L:List FileV} (hA:LAt W A L):LAt (set4 W b s) A L:=by
 rcases hA with hA | ⟨g,h1,h2,h3⟩
 ·exact .inl hA
 ·exact .inr ⟨g,h1,by rw [set4_size];exact h2,set4_files h hf h3⟩
theorem mid_set {w7 w9:World} {F:Nat → List FileV} {A:Nat → Option Addr} {c:Nat → Nat} {b:Nat} (hb:RowKit.Below w7.heap.size w7 w9) (hnew:w7.heap.size ≤ b) (t:Four w9 b (fun _=>.slice none 0 0)) (hv:VerIn w9 F A c):MidSt w7 F b (set4 w9 b (fun i=>.slice (A i) (F i).length (c i))):=
 ⟨set4_below hb hnew _,hnew,A,c,set4_four t,fun i hi=>⟨set4_files t (fun _ _=>⟨_,_,_,rfl⟩) (hv i hi).1,(hv i hi).2⟩⟩
theorem mid_new {w7 w9:World} {F:Nat → List FileV} {A:Nat → Option Addr} {c:Nat → Nat} (hb:RowKit.Below w7.heap.size w7 w9) (hv:VerIn w9 F A c) (t:TypeId):MidSt w7 F w9.heap.size (w9.alloc (.cells #[.slice (A 0) (F 0).length (c 0),.slice (A 1) (F 1).length (c 1),.slice (A 2) (F 2).length (c 2),.slice (A 3) (F 3).length (c 3)] t)):=
 ⟨hb.alloc hb.size _,hb.size,A,c,⟨t,World.alloc_heap_new w9 _⟩,hv.below ((RowKit.Below.refl _ _).alloc (Nat.le_refl _) _)⟩
theorem PlSt.take' {w W:World} {F RF:Nat → List FileV} {A A' A6 A8:Nat → Option Addr} {c c' c6 c8:Nat → Nat} (h:PlSt w F A c A' c' W) (h6:∀ i,i < 4 → LAt W (A6 i) (RF i) ∧ (RF i).length ≤ c6 i) (h8:VerIn W RF A8 c8) :
  PlSt w RF A6 c6 A8 c8 (set4 (set4 W (w.heap.size + 1 + 1 + 1) (fun i=>.slice (A8 i) (RF i).length (c8 i))) (w.heap.size + 1 + 1) (fun i=>.slice (A6 i) (RF i).length (c6 i))):=by
 have q1:Four (set4 W (w.heap.size + 1 + 1 + 1) (fun i=>.slice (A8 i) (RF i).length (c8 i))) (w.heap.size + 1 + 1) _:=h.v.keep (set4_block _ _ _ _ (by omega))
 have sl:∀ (B:Nat → Option Addr) (G:Nat → List FileV) (d:Nat → Nat) (i:Nat),i < 4 → ∃ X n k,(fun i=>Value.slice (B i) (G i).length (d i)) i = .slice X n k:=fun B G d i _=>⟨_,_,_,rfl⟩
 refine ⟨(h.v0.keep (set4_block _ _ _ _ (by omega))).keep (set4_block _ _ _ _ (by omega)),(h.q0.keep (set4_block _ _ _ _ (by omega))).keep (set4_block _ _ _ _ (by omega)),set4_four q1,(set4_four h.q).keep (set4_block _ _ _ _ (by omega)),
  fun i hi=>⟨set4_lat q1 (sl _ _ _) (set4_lat h.q (sl _ _ _) (h6 i hi).1),(h6 i hi).2⟩,fun i hi=>⟨set4_files q1 (sl _ _ _) (set4_files h.q (sl _ _ _) (h8 i hi).1),(h8 i hi).2⟩,set4_below (set4_below h.below (by omega) _) (by omega) _,by rw [set4_size,set4_size];exact h.size⟩
theorem PlSt.take {w W:World} {F RF:Nat → List FileV} {A A' A6 A8:Nat → Option Addr} {c c' c6 c8:Nat → Nat} (h:PlSt w F A c A' c' W) (h6:∀ i,i < 4 → LAt W (A6 i) (RF i) ∧ (RF i).length ≤ c6 i) (h8:VerIn W RF A8 c8) :
  PlSt w RF A6 c6 A8 c8 (set4 (set4 W (w.heap.size + 1 + 1) (fun i=>.slice (A6 i) (RF i).length (c6 i))) (w.heap.size + 1 + 1 + 1) (fun i=>.slice (A8 i) (RF i).length (c8 i))):=by
 have q1:Four (set4 W (w.heap.size + 1 + 1) (fun i=>.slice (A6 i) (RF i).length (c6 i))) (w.heap.size + 1 + 1 + 1) _:=h.q.keep (set4_block _ _ _ _ (by omega))
 have sl:∀ (B:Nat → Option Addr) (G:Nat → List FileV) (d:Nat → Nat) (i:Nat),i < 4 → ∃ X n k,(fun i=>Value.slice (B i) (G i).length (d i)) i = .slice X n k:=fun B G d i _=>⟨_,_,_,rfl⟩
 refine ⟨(h.v0.keep (set4_block _ _ _ _ (by omega))).keep (set4_block _ _ _ _ (by omega)),(h.q0.keep (set4_block _ _ _ _ (by omega))).keep (set4_block _ _ _ _ (by omega)),(set4_four h.v).keep (set4_block _ _ _ _ (by omega)),set4_four q1,
  fun i hi=>⟨set4_lat q1 (sl _ _ _) (set4_lat h.v (sl _ _ _) (h6 i hi).1),(h6 i hi).2⟩,fun i hi=>⟨set4_files q1 (sl _ _ _) (set4_files h.v (sl _ _ _) (h8 i hi).1),(h8 i hi).2⟩,set4_below (set4_below h.below (by omega) _) (by omega) _,by rw [set4_size,set4_size];exact h.size⟩
theorem PlSt.fin {w W:World} {F:Nat → List FileV} {A A':Nat → Option Addr} {c c':Nat → Nat} (h:PlSt w F A c A' c' W):∀ wF,wF = set4 (set4 W w.heap.size (fun i=>.slice (A i) (F i).length (c i))) (w.heap.size + 1) (fun i=>.slice (A' i) (F i).length (c' i)) →
  Four wF w.heap.size (fun i=>.slice (A i) (F i).length (c i)) ∧ Four wF (w.heap.size + 1) (fun i=>.slice (A' i) (F i).length (c' i)) ∧ (∀ i,i < 4 → LAt wF (A i) (F i) ∧ (F i).length ≤ c i) ∧ VerIn wF F A' c' ∧ RowKit.Below w.heap.size w wF:=by
 intro wF hF
 have q1:Four (set4 W w.heap.size (fun i=>.slice (A i) (F i).length (c i))) (w.heap.size + 1) _:=h.q0.keep (set4_block _ _ _ _ (by omega))
 have s0:∀ i,i < 4 → ∃ A n c,(fun _:Nat=>nilS) i = Value.slice A n c:=fun i _=>⟨none,0,0,rfl⟩
 rw [hF]
 exact ⟨(set4_four h.v0).keep (set4_block _ _ _ _ (by omega)),set4_four q1,fun i hi=>⟨set4_lat q1 s0 (set4_lat h.v0 s0 (h.code i hi).1),(h.code i hi).2⟩,fun i hi=>⟨set4_files q1 s0 (set4_files h.v0 s0 (h.ref i hi).1),(h.ref i hi).2⟩,set4_below (set4_below h.below (Nat.le_refl _) _) (by omega) _⟩
set_option maxHeartbeats 16000000 in
set_option maxRecDepth 100000 in
theorem played_on (A:Option Addr) (cap:Nat) (l:List S26) (w:World) (hA:Kd.C k26 w A l.length l) (hcap:l.length ≤ cap) (h30:l.length ≤ 30) (h60:∀ e ∈ l,e.f3.length ≤ 60 ∧ e.f4.length ≤ 60) (hwf:∀ e ∈ l,∀ x ∈ e.f3,(Lit.int .u64 x.f1.f0).wf = true) :
  Calls Tryd.prog 39 #[.slice A l.length cap] w fun e w'=>∃ (B:Nat → Option Addr) (c:Nat → Nat) (B':Nat → Option Addr) (c':Nat → Nat),
   e = .returned (.tuple #[.agg #[.slice (B 0) (playF l noneF 0).length (c 0),.slice (B 1) (playF l noneF 1).length (c 1),.slice (B 2) (playF l noneF 2).length (c 2),.slice (B 3) (playF l noneF 3).length (c 3)],.agg #[.slice (B' 0) (playF l noneF 0).length (c' 0),.slice (B' 1) (playF l noneF 1).length (c' 1),.slice (B' 2) (playF l noneF 2).length (c' 2),.slice (B' 3) (playF l noneF 3).length (c' 3)],.bool true]) ∧
   (∀ i,i < 4 → LAt w' (B i) (playF l noneF i) ∧ (playF l noneF i).length ≤ c i) ∧ VerIn w' (playF l noneF) B' c' ∧ RowKit.Below w.heap.size w w':=by
 have mixed:Tryd.prog.follows .mixedOrders = true:=by kernel_rfl
 obtain ⟨FF,hFF⟩:∃ F,F = playF l noneF:=⟨_,rfl⟩
 rw [← hFF]
 have HFF:=Hush.mk hFF
 clear hFF
 obtain ⟨w1,hw1⟩:∃ w1,w1 = (((w.alloc (.cells #[.slice none 0 0,.slice none 0 0,.slice none 0 0,.slice none 0 0] 79)).alloc (.cells #[.slice none 0 0,.slice none 0 0,.slice none 0 0,.slice none 0 0] 83)).alloc (.cells #[.slice none 0 0,.slice none 0 0,.slice none 0 0,.slice none 0 0] 79)).alloc (.cells #[.slice none 0 0,.slice none 0 0,.slice none 0 0,.slice none 0 0] 83):=⟨_,rfl⟩
 have H1:=Hush.mk (four_boxes w 79 83 w1 hw1)
 have HG:Hush (∀ j,GoodF (playF (l.take j) noneF) 1800):=⟨fun j=>by
  have:=GoodF.play (m:=60) (l.take j) GoodF.none (fun e he=>(h60 e (List.mem_of_mem_take he)).1) (fun e he=>hwf e (List.mem_of_mem_take he))
  refine ⟨this.right,fun i=>Nat.le_trans (this.short i) ?_,this.wf⟩
  rw [List.length_take]
  have:min j l.length ≤ 30:=by omega
  omega⟩
 have HA:=Hush.mk hA
 have H60:=Hush.mk h60
 have HWF:=Hush.mk hwf
 obtain ⟨kb,hkb⟩:∃ kb:Int,kb = 30:=⟨_,rfl⟩
 have hlb:(l.length:Int) ≤ kb:=by omega
 have hkb2:kb ≤ 9000000:=by omega
 clear hA h60 hwf hkb h30
 go_enter Tryd.func39,Tryd.ntmps39
 go_wp2
 rw [← hw1]
 clear hw1
 go_loopw [15] (fun iv wr=>∃ j:Nat,iv = .int .i64 j ∧ j ≤ l.length ∧ Hush (∃ B c B' c',PlSt w (playF (l.take j) noneF) B c B' c' wr)) (fun iv _=>l.length - (intOf iv).toNat)
 case atStart=>exact ⟨0,by go_num,by omega,⟨_,_,_,_,H1.out⟩⟩
 case round=>
  obtain ⟨j,rfl,hj,HJ⟩:=hrel
  by_cases hlt:j < l.length
  ·have hltz:(j:Int) < (l.length:Int):=by omega
   have hjk:(j:Int) < kb:=by omega
   obtain ⟨B,c,B',c',hst⟩:=HJ.out
   obtain ⟨F,hF⟩:∃ F,F = playF (l.take j) noneF:=⟨_,rfl⟩
   rw [← hF] at hst
   have hgF:=HG.out j
   rw [← hF] at hgF
   obtain ⟨e,he⟩:∃ e,l[j]? = some e:=⟨_,List.getElem?_eq_getElem hlt⟩
   have hm:e ∈ l:=List.mem_of_getElem? he
   have HF1:Hush (playF (l.take (j + 1)) noneF = playOne e F):=⟨by rw [playF_take l j e he,← hF]⟩
   obtain ⟨ad,CA,cc,GA,gc,hAd,d0,d1,d2,d3,d4,hcc,hCC,hgc,hGG⟩:=k26_row HA.out he
   subst hAd
   have bwr:=hst.below
   have up:∀ p v,w.cell? p = some v → wr.cell? p = some v:=fun p v e=>(bwr.cell (World.block_lt_of_cell? w p e)).trans e
   have e0:=up _ _ d0
   have e1:=up _ _ d1
   have e2:=up _ _ d2
   have e3:=up _ _ d3
   have e4:=up _ _ d4
   have h60:=H60.out e hm
   have hwf:=HWF.out e hm
   obtain ⟨x0,x1,x2,C,G⟩:=e
   simp only at e0 e1 e2 e3 e4 hcc hCC hgc hGG h60 hwf
   obtain ⟨R,hR⟩:∃ R,R = applyR C G F:=⟨_,rfl⟩
   obtain ⟨eb,heb⟩:∃ eb,eb = wr.heap.size:=⟨_,rfl⟩
   obtain ⟨w5,hw5⟩:∃ w5,w5 = wr.alloc (.cells #[.int .u64 x0,.int .u64 x1,.int .u64 x2,.slice CA C.length cc,.slice GA G.length gc] 26):=⟨_,rfl⟩
   have b5:RowKit.Below wr.heap.size wr w5:=by rw [hw5];exact (RowKit.Below.refl _ _).alloc (Nat.le_refl _) _
   have z5:w5.heap.size = wr.heap.size + 1:=by rw [hw5,size_alloc]
   have HS5:=Hush.mk (hst.step b5)
   have HE5:Hush (∀ W,RowKit.Below w5.heap.size w5 W → W.cell? ⟨eb,0,none⟩ = some (.int .u64 x0) ∧ W.cell? ⟨eb,1,none⟩ = some (.int .u64 x1) ∧ W.cell? ⟨eb,2,none⟩ = some (.int .u64 x2) ∧ W.cell? ⟨eb,3,none⟩ = some (.slice CA C.length cc) ∧ W.cell? ⟨eb,4,none⟩ = some (.slice GA G.length gc)):=⟨fun W hW=>five_box wr _ _ _ _ _ 26 eb heb (by rw [← hw5];exact hW)⟩
   have HK:=Hush.mk (And.intro hCC (And.intro hcc (And.intro hGG hgc)))
   have HGF:=Hush.mk hgF
   have HWFE:=Hush.mk hwf
   have HLN:=Hush.mk h60
   have HRR:=Hush.mk hR
   have HAP:Hush (Calls Tryd.prog 47 #[.agg #[.slice (B 0) (F 0).length (c 0),.slice (B 1) (F 1).length (c 1),.slice (B 2) (F 2).length (c 2),.slice (B 3) (F 3).length (c 3)],.agg #[.int .u64 x0,.int .u64 x1,.int .u64 x2,.slice CA C.length cc,.slice GA G.length gc]] w5 (ApPost w5 R)):=⟨by
    rw [hR]
    have hb:=bwr.trans (b5.mono bwr.size)
    exact apply_on F 1800 B c x0 x1 x2 CA GA cc gc C G w5 HS5.out.code hgF (by omega) hwf (Kd.C_below hCC hb) hcc (Kd.C_below hGG hb) hgc⟩
   have g0:=HS5.out.v.cell 0 (by omega)
   have g1:=HS5.out.v.cell 1 (by omega)
   have g2:=HS5.out.v.cell 2 (by omega)
   have g3:=HS5.out.v.cell 3 (by omega)
   have HEB:Hush (eb < w5.heap.size):=⟨by rw [heb];omega⟩
   have HEQ:Hush (eb = wr.heap.size):=⟨heb⟩
   have HW5:=Hush.mk hw5
   rw [hw5] at g0 g1 g2 g3
   clear hF he hm hgF hst up d0 d1 d2 d3 d4 hCC hcc hGG hgc h60 hwf hR heb hw5 b5 z5 HJ bwr
   go_wp2_with (go_at_call 47;rw [← HW5.out];refine HAP.out.mono ?_;rintro e w6 ⟨A6,c6,rfl,h6,hb6⟩;have H6:=Hush.mk h6;have HB6:=Hush.mk hb6;clear h6 hb6)
   rw [← HEQ.out]
   clear g0 g1 g2 g3 e0 e1 e2 e3 e4
   obtain ⟨w7,hw7⟩:∃ w7,w7 = w6.alloc (.cells #[.slice (A6 0) (R.1 0).length (c6 0),.slice (A6 1) (R.1 1).length (c6 1),.slice (A6 2) (R.1 2).length (c6 2),.slice (A6 3) (R.1 3).length (c6 3)] 79):=⟨_,rfl⟩
   have b7:RowKit.Below w6.heap.size w6 w7:=by rw [hw7];exact (RowKit.Below.refl _ _).alloc (Nat.le_refl _) _
   have HB7:Hush (RowKit.Below w5.heap.size w5 w7):=⟨HB6.out.trans (b7.mono HB6.out.size)⟩
   have HF7:Hush (Four w7 w6.heap.size (fun i=>.slice (A6 i) (R.1 i).length (c6 i))):=⟨⟨79,by rw [hw7];exact World.alloc_heap_new w6 _⟩⟩
   have HL7:Hush (∀ i,i < 4 → LAt w7 (A6 i) (R.1 i) ∧ (R.1 i).length ≤ c6 i):=⟨fun i hi=>⟨(H6.out i hi).1.below b7,(H6.out i hi).2⟩⟩
   obtain ⟨wb,hwb⟩:∃ wb,wb = w6.heap.size:=⟨_,rfl⟩
   rw [← hw7,← hwb]
   rw [← hwb] at HF7
   have HNE:Hush (∀ rb,w7.heap.size ≤ rb → wb ≠ w.heap.size + 1 + 1 ∧ rb ≠ w.heap.size + 1 + 1 ∧ wb ≠ w.heap.size + 1 + 1 + 1 ∧ rb ≠ w.heap.size + 1 + 1 + 1):=⟨fun rb h=>by
    have a:=HS5.out.size
    have b:=HB6.out.size
    have c:w7.heap.size = w6.heap.size + 1:=by rw [hw7,size_alloc]
    omega⟩
   clear hw7 hwb b7
   have HS7:=Hush.mk (HS5.out.step HB7.out)
   have HSK:Hush (∀ W,RowKit.Below w7.heap.size w7 W → W.cell? ⟨eb,0,none⟩ = some (.int .u64 x0) ∧ W.cell? ⟨eb,1,none⟩ = some (.int .u64 x1) ∧ W.cell? ⟨eb,2,none⟩ = some (.int .u64 x2) ∧ W.cell? ⟨eb,3,none⟩ = some (.slice CA C.length cc) ∧ W.cell? ⟨eb,4,none⟩ = some (.slice GA G.length gc) ∧
     W.cell? ⟨w.heap.size + 1 + 1 + 1,0,none⟩ = some (.slice (B' 0) (F 0).length (c' 0)) ∧ W.cell? ⟨w.heap.size + 1 + 1 + 1,1,none⟩ = some (.slice (B' 1) (F 1).length (c' 1)) ∧ W.cell? ⟨w.heap.size + 1 + 1 + 1,2,none⟩ = some (.slice (B' 2) (F 2).length (c' 2)) ∧ W.cell? ⟨w.heap.size + 1 + 1 + 1,3,none⟩ = some (.slice (B' 3) (F 3).length (c' 3))):=⟨fun W hW=>by
    obtain ⟨q0,q1,q2,q3,q4⟩:=HE5.out W (HB7.out.trans (hW.mono HB7.out.size))
    have f:=(HS7.out.step hW).q
    exact ⟨q0,q1,q2,q3,q4,f.cell 0 (by omega),f.cell 1 (by omega),f.cell 2 (by omega),f.cell 3 (by omega)⟩⟩
   have HTO:Hush (∀ W,RowKit.Below w7.heap.size w7 W → Calls Tryd.prog 16 #[.agg #[.int .u64 x0,.int .u64 x1,.int .u64 x2,.slice CA C.length cc,.slice GA G.length gc]] W fun e w'=>∃ CA' cc' GA' gc',e = .returned (.agg #[.int .u64 x0,.int .u64 x1,.int .u64 x2,.slice CA' C.length cc',.slice GA' G.length gc']) ∧ RowKit.Below W.heap.size W w' ∧ Hush (RowKit.Below w7.heap.size w7 w') ∧
     Hush (∀ W2,RowKit.Below w'.heap.size w' W2 → Calls Tryd.prog 89 #[.agg #[.slice (B' 0) (F 0).length (c' 0),.slice (B' 1) (F 1).length (c' 1),.slice (B' 2) (F 2).length (c' 2),.slice (B' 3) (F 3).length (c' 3)],.agg #[.int .u64 x0,.int .u64 x1,.int .u64 x2,.slice CA' C.length cc',.slice GA' G.length gc']] W2 fun e w''=>∃ A8 c8,e = .returned (.tuple #[.agg #[.slice (A8 0) (R.1 0).length (c8 0),.slice (A8 1) (R.1 1).length (c8 1),.slice (A8 2) (R.1 2).length (c8 2),.slice (A8 3) (R.1 3).length (c8 3)],.int .i64 R.2]) ∧ RowKit.Below W2.heap.size W2 w'' ∧ Hush (RowKit.Below w7.heap.size w7 w'') ∧ Hush (VerIn w'' R.1 A8 c8))):=⟨fun W hW=>by
    have hb:=HS7.out.below.trans (hW.mono HS7.out.below.size)
    refine (to_on x0 x1 x2 CA GA cc gc C G W (Kd.C_below HK.out.1 hb) HK.out.2.1 (Kd.C_below HK.out.2.2.1 hb) HK.out.2.2.2 (by have:=HLN.out.1;omega) (by have:=HLN.out.2;omega)).mono fun e w' ⟨⟨CA',cc',GA',gc',h1,h2,h3,h4,h5⟩,h6⟩=>⟨CA',cc',GA',gc',h1,h6,⟨hW.trans (h6.mono hW.size)⟩,⟨fun W2 hW2=>?_⟩⟩
    have hb7:=hW.trans (h6.mono hW.size)
    have hb8:=hb7.trans (hW2.mono hb7.size)
    have:=refApply_good F 1800 B' c' x0 x1 x2 CA' GA' cc' gc' C G W2 (HS7.out.step hb8).ref HGF.out (by omega) HWFE.out (Kd.C_below h2 hW2) h3 (Kd.C_below h4 hW2) h5
    rw [← HRR.out] at this
    exact this.mono fun e w'' ⟨A8,c8,k1,k2,k3⟩=>⟨A8,c8,k1,k3,⟨hb8.trans (k3.mono hb8.size)⟩,⟨k2⟩⟩⟩
   go_cut [11,12] from 16 to 56 (fun s11 s12 wx=>∃ rb,s11 = .pointer (some ⟨rb,0,none⟩) ∧ s12 = .int .i64 R.2 ∧ Hush (MidSt w7 R.1 rb wx))
   case first=>
    go_region_held3 (fun W=>W.cell? ⟨eb,0,none⟩ = some (.int .u64 x0) ∧ W.cell? ⟨eb,1,none⟩ = some (.int .u64 x1) ∧ W.cell? ⟨eb,2,none⟩ = some (.int .u64 x2) ∧ W.cell? ⟨eb,3,none⟩ = some (.slice CA C.length cc) ∧ W.cell? ⟨eb,4,none⟩ = some (.slice GA G.length gc) ∧
     W.cell? ⟨w.heap.size + 1 + 1 + 1,0,none⟩ = some (.slice (B' 0) (F 0).length (c' 0)) ∧ W.cell? ⟨w.heap.size + 1 + 1 + 1,1,none⟩ = some (.slice (B' 1) (F 1).length (c' 1)) ∧ W.cell? ⟨w.heap.size + 1 + 1 + 1,2,none⟩ = some (.slice (B' 2) (F 2).length (c' 2)) ∧ W.cell? ⟨w.heap.size + 1 + 1 + 1,3,none⟩ = some (.slice (B' 3) (F 3).length (c' 3)))
     (exact HSK.out _ (by repeat (first | with_reducible exact RowKit.Below.refl _ _ | with_reducible exact HB8.out | with_reducible exact HB9.out | with_reducible refine RowKit.Below.drew ?_ | with_reducible refine below_alloc' ?_ (Nat.le_refl _) _ | (with_reducible refine RowKit.Below.setCell ?_ ?_ _;rotate_left;(first | exact Nat.le_refl _ | exact HB8.out.size | exact HB9.out.size)))))
     ((first
      | (go_at_call 16;refine (HTO.out _ (by repeat (first | with_reducible exact RowKit.Below.refl _ _ | with_reducible refine RowKit.Below.drew ?_ | with_reducible refine below_alloc' ?_ (Nat.le_refl _) _))).mono ?_;rintro e w8 ⟨CA',cc',GA',gc',rfl,hb8,HB8,HR8⟩;(first | have T8:=Hush.mk (box_after hb8) | have T8:=Hush.mk (box_afterD hb8) | skip);clear hb8)
      | (go_at_call 89;refine (HR8.out _ (by repeat (first | with_reducible exact RowKit.Below.refl _ _ | with_reducible refine RowKit.Below.drew ?_ | with_reducible refine below_alloc' ?_ (Nat.le_refl _) _))).mono ?_;rintro e w9 ⟨A8,c8,rfl,hb9,HB9,HV9⟩;(first | (have T9:=Hush.mk (T8.out.below hb9);have t0:=T9.out.cell 0 (by omega);have t1:=T9.out.cell 1 (by omega);have t2:=T9.out.cell 2 (by omega);have t3:=T9.out.cell 3 (by omega);have u0:=T9.out.frozen 0;have u1:=T9.out.frozen 1;have u2:=T9.out.frozen 2;have u3:=T9.out.frozen 3) | (have T9:=Hush.mk (box_after hb9);have t0:=T9.out.cell 0 (by omega);have t1:=T9.out.cell 1 (by omega);have t2:=T9.out.cell 2 (by omega);have t3:=T9.out.cell 3 (by omega);have u0:=T9.out.frozen 0;have u1:=T9.out.frozen 1;have u2:=T9.out.frozen 2;have u3:=T9.out.frozen 3) | skip);clear hb9)))
    all_goals
     go_wp2_with fail
     go_meet
     case rel=>exact ⟨_,rfl,rfl,⟨by first | exact mid_new HB9.out HV9.out 83 | exact mid_set HB9.out (Nat.le_refl _) T9.out HV9.out | exact mid_set HB9.out HB8.out.size T9.out HV9.out⟩⟩
   case rest=>
    obtain ⟨rb,rfl,rfl,HM⟩:=hcut
    obtain ⟨A8,c8,h8,hv8⟩:=HM.out.four
    have bM:=HM.out.below
    have HSM:=Hush.mk (HS7.out.step bM)
    have hf7:=HF7.out.below bM
    have hl7:∀ i,i < 4 → LAt wc (A6 i) (R.1 i) ∧ (R.1 i).length ≤ c6 i:=fun i hi=>⟨(HL7.out i hi).1.below bM,(HL7.out i hi).2⟩
    have hrc:=applyR_cases C G F
    rw [← HRR.out] at hrc
    have HPO:Hush (playOne ⟨x0,x1,x2,C,G⟩ F = if R.2 = 0 then R.1 else F):=⟨by rw [HRR.out];rfl⟩
    have hne:wb ≠ w.heap.size + 1 + 1 ∧ rb ≠ w.heap.size + 1 + 1 ∧ wb ≠ w.heap.size + 1 + 1 + 1 ∧ rb ≠ w.heap.size + 1 + 1 + 1:=HNE.out rb HM.out.new
    have hlr:∀ i,(R.1 i).length ≤ 1000000:=fun i=>by
     rcases hrc with ⟨_,h2⟩ | ⟨F1,_,h2,_,h4⟩
     ·rw [h2];exact Nat.zero_le _
     ·rw [h4]
      have a:=comeWith_len C F1 i
      have b:=(goAll_sub G F F1 h2 i).length_le
      have c:=HGF.out.short i
      have d:=HLN.out.1
      show (comeWith C F1 i).length ≤ _
      omega
    obtain ⟨RF,er⟩:=R
    simp only at h8 hv8 hf7 hl7 hlr HPO hrc
    have HNE2:=Hush.mk hne
    have HH8:=Hush.mk h8
    have HF7c:=Hush.mk hf7
    have HV8:=Hush.mk hv8
    have HL7c:=Hush.mk hl7
    have HCS:Hush (Calls Tryd.prog 90 #[.agg #[.slice (A6 0) (RF 0).length (c6 0),.slice (A6 1) (RF 1).length (c6 1),.slice (A6 2) (RF 2).length (c6 2),.slice (A6 3) (RF 3).length (c6 3)],.agg #[.slice (A8 0) (RF 0).length (c8 0),.slice (A8 1) (RF 1).length (c8 1),.slice (A8 2) (RF 2).length (c8 2),.slice (A8 3) (RF 3).length (c8 3)]] wc fun e w'=>e = .returned (.bool true) ∧ RowKit.Below wc.heap.size wc w'):=
     ⟨same_on RF A6 A8 c6 c8 wc (fun i hi=>⟨(hl7 i hi).1.files,(hl7 i hi).2⟩) hv8 (fun i _=>hlr i)⟩
    have p0:=hf7.cell 0 (by omega)
    have p1:=hf7.cell 1 (by omega)
    have p2:=hf7.cell 2 (by omega)
    have p3:=hf7.cell 3 (by omega)
    have r0:=h8.cell 0 (by omega)
    have r1:=h8.cell 1 (by omega)
    have r2:=h8.cell 2 (by omega)
    have r3:=h8.cell 3 (by omega)
    by_cases hz:er = 0
    ·subst hz
     have HP1:Hush (playF (l.take (j + 1)) noneF = RF):=⟨by rw [HF1.out,HPO.out,if_pos rfl]⟩
     clear h8 hv8 bM hf7 hl7 hlr hrc hne HPO HRR HTO HSK HS7 HB7
     go_wp2_with (go_at_call 90;refine HCS.out.mono ?_;rintro e w10 ⟨rfl,hb10⟩;have HB10:=Hush.mk hb10;clear hb10)
     clear p0 p1 p2 p3 r0 r1 r2 r3
     have HB11:=HB10
     have h10:=HSM.out.step HB11.out
     have HFIN:=Hush.mk (h10.take (fun i hi=>⟨(HL7c.out i hi).1.below HB11.out,(HL7c.out i hi).2⟩) (HV8.out.below HB11.out))
     have f1:=HF7c.out.below HB11.out
     have f2:=HH8.out.below HB11.out
     have p0:=f1.cell 0 (by omega)
     have p1:=f1.cell 1 (by omega)
     have p2:=f1.cell 2 (by omega)
     have p3:=f1.cell 3 (by omega)
     have r0:=f2.cell 0 (by omega)
     have r1:=f2.cell 1 (by omega)
     have r2:=f2.cell 2 (by omega)
     have r3:=f2.cell 3 (by omega)
     have s0:=h10.v.cell 0 (by omega)
     have s1:=h10.v.cell 1 (by omega)
     have s2:=h10.v.cell 2 (by omega)
     have s3:=h10.v.cell 3 (by omega)
     have v0:=h10.v.frozen 0
     have v1:=h10.v.frozen 1
     have v2:=h10.v.frozen 2
     have v3:=h10.v.frozen 3
     have t0:=h10.q.cell 0 (by omega)
     have t1:=h10.q.cell 1 (by omega)
     have t2:=h10.q.cell 2 (by omega)
     have t3:=h10.q.cell 3 (by omega)
     have z0:=h10.q.frozen 0
     have z1:=h10.q.frozen 1
     have z2:=h10.q.frozen 2
     have z3:=h10.q.frozen 3
     have HFIN2:=Hush.mk (h10.take' (fun i hi=>⟨(HL7c.out i hi).1.below HB11.out,(HL7c.out i hi).2⟩) (HV8.out.below HB11.out))
     clear h10 f1 f2
     obtain ⟨n1,n2,n3,n4⟩:=HNE2.out
     have m1:=n1.symm
     have m2:=n2.symm
     have m3:=n3.symm
     have m4:=n4.symm
     go_region
     all_goals
      go_wp2
      go_roundw
      case rel=>exact ⟨j + 1,by go_num,by omega,⟨A6,c6,A8,c8,by rw [HP1.out];first | exact HFIN.out.step (RowKit.Below.refl _ _).drew | exact HFIN2.out.step (RowKit.Below.refl _ _).drew⟩⟩
      case measure=>simp [intOf];omega
    ·have hrn:RF = noneF:=by
      rcases hrc with ⟨_,h2⟩ | ⟨F1,_,_,_,h4⟩
      ·exact h2
      ·exact absurd (Prod.ext_iff.1 h4).2 hz
     have hzb:(er == 0) = false:=by simpa using hz
     have HP1:Hush (playF (l.take (j + 1)) noneF = F):=⟨by rw [HF1.out,HPO.out,if_neg hz]⟩
     have HCC:Hush (∀ W,RowKit.Below wc.heap.size wc W → Calls Tryd.prog 48 #[.agg #[.slice (A6 0) (RF 0).length (c6 0),.slice (A6 1) (RF 1).length (c6 1),.slice (A6 2) (RF 2).length (c6 2),.slice (A6 3) (RF 3).length (c6 3)]] W fun e w'=>e = .returned (.int .i64 0) ∧ RowKit.Below W.heap.size W w'):=⟨fun W hW=>by
      have:=count_on RF A6 c6 W (fun i hi=>⟨(hl7 i hi).1.files.below hW,hlr i⟩)
      rwa [show ((allLen RF 4:Nat):Int) = 0 by rw [hrn];rfl] at this⟩
     clear h8 hv8 bM hl7 hlr hrc hne HPO HRR HTO HSK HS7 HB7 hrn
     go_wp2_with (first
      | (go_at_call 90;refine HCS.out.mono ?_;rintro e w10 ⟨rfl,hb10⟩;have HB10:=Hush.mk hb10;have f1:=HF7c.out.below hb10;have p0:=f1.cell 0 (by omega);have p1:=f1.cell 1 (by omega);have p2:=f1.cell 2 (by omega);have p3:=f1.cell 3 (by omega);clear hb10 f1)
      | (go_at_call 48;refine (HCC.out _ HB10.out).mono ?_;rintro e w11 ⟨rfl,hb11⟩;have HNX:Hush (PlSt w F B c B' c' w11):=⟨(HSM.out.step HB10.out).step hb11⟩;clear hb11))
     go_roundw
     case rel=>exact ⟨j + 1,by go_num,by omega,⟨B,c,B',c',by rw [HP1.out];exact HNX.out⟩⟩
     case measure=>simp [intOf];omega
  ·obtain rfl:j = l.length:=by omega
   obtain ⟨B,c,B',c',hst⟩:=HJ.out
   rw [List.take_length] at hst
   rw [← HFF.out] at hst
   have HST:=Hush.mk hst
   have HFN:=Hush.mk (hst.fin)
   have s0:=hst.v.cell 0 (by omega)
   have s1:=hst.v.cell 1 (by omega)
   have s2:=hst.v.cell 2 (by omega)
   have s3:=hst.v.cell 3 (by omega)
   have t0:=hst.q.cell 0 (by omega)
   have t1:=hst.q.cell 1 (by omega)
   have t2:=hst.q.cell 2 (by omega)
   have t3:=hst.q.cell 3 (by omega)
   have o0:=hst.v0.cell 0 (by omega)
   have o1:=hst.v0.cell 1 (by omega)
   have o2:=hst.v0.cell 2 (by omega)
   have o3:=hst.v0.cell 3 (by omega)
   have y0:=hst.q0.cell 0 (by omega)
   have y1:=hst.q0.cell 1 (by omega)
   have y2:=hst.q0.cell 2 (by omega)
   have y3:=hst.q0.cell 3 (by omega)
   have a0:=hst.v0.frozen 0
   have a1:=hst.v0.frozen 1
   have a2:=hst.v0.frozen 2
   have a3:=hst.v0.frozen 3
   have b0:=hst.q0.frozen 0
   have b1:=hst.q0.frozen 1
   have b2:=hst.q0.frozen 2
   have b3:=hst.q0.frozen 3
   unfold nilS at o0 o1 o2 o3 y0 y1 y2 y3
   clear hst HJ H1 HG HA H60 HWF
   go_wp2_with fail
   go_region
   all_goals
    go_wp2_with fail
    obtain ⟨wF,hwF⟩:∃ wF,wF = ((((((((wr.setCell ⟨w.heap.size,0,none⟩ (.slice (B 0) (FF 0).length (c 0))).setCell ⟨w.heap.size,1,none⟩ (.slice (B 1) (FF 1).length (c 1))).setCell ⟨w.heap.size,2,none⟩ (.slice (B 2) (FF 2).length (c 2))).setCell ⟨w.heap.size,3,none⟩ (.slice (B 3) (FF 3).length (c 3))).setCell ⟨w.heap.size + 1,0,none⟩ (.slice (B' 0) (FF 0).length (c' 0))).setCell ⟨w.heap.size + 1,1,none⟩ (.slice (B' 1) (FF 1).length (c' 1))).setCell ⟨w.heap.size + 1,2,none⟩ (.slice (B' 2) (FF 2).length (c' 2))).setCell ⟨w.heap.size + 1,3,none⟩ (.slice (B' 3) (FF 3).length (c' 3))).drew:=⟨_,rfl⟩
    obtain ⟨h1,h2,h3,h4,h5⟩:=HFN.out _ rfl
    have bd:RowKit.Below (set4 (set4 wr w.heap.size (fun i=>.slice (B i) (FF i).length (c i))) (w.heap.size + 1) (fun i=>.slice (B' i) (FF i).length (c' i))).heap.size (set4 (set4 wr w.heap.size (fun i=>.slice (B i) (FF i).length (c i))) (w.heap.size + 1) (fun i=>.slice (B' i) (FF i).length (c' i))) wF:=by
     rw [hwF]
     exact (RowKit.Below.refl _ _).drew
    have k1:=h1.below bd
    have k2:=h2.below bd
    have HEND:Hush ((∀ i,i < 4 → LAt wF (B i) (FF i) ∧ (FF i).length ≤ c i) ∧ VerIn wF FF B' c' ∧ RowKit.Below w.heap.size w wF):=⟨⟨fun i hi=>⟨(h3 i hi).1.below bd,(h3 i hi).2⟩,h4.below bd,h5.trans (bd.mono h5.size)⟩⟩
    rw [← hwF]
    have l0:=k1.cell 0 (by omega)
    have l1:=k1.cell 1 (by omega)
    have l2:=k1.cell 2 (by omega)
    have l3:=k1.cell 3 (by omega)
    have l4:=k2.cell 0 (by omega)
    have l5:=k2.cell 1 (by omega)
    have l6:=k2.cell 2 (by omega)
    have l7:=k2.cell 3 (by omega)
    exact bodyPost_ret (v:=.tuple #[.agg #[.slice (B 0) (FF 0).length (c 0),.slice (B 1) (FF 1).length (c 1),.slice (B 2) (FF 2).length (c 2),.slice (B 3) (FF 3).length (c 3)],.agg #[.slice (B' 0) (FF 0).length (c' 0),.slice (B' 1) (FF 1).length (c' 1),.slice (B' 2) (FF 2).length (c' 2),.slice (B' 3) (FF 3).length (c' 3)],.bool true]) (by simp [results,Tryd.results39,go_sem,l0,l1,l2,l3,l4,l5,l6,l7]) rfl ⟨B,c,B',c',rfl,HEND.out.1,HEND.out.2.1,HEND.out.2.2⟩
end Go.Proofs.YteilnbnnhocciaaDoor.V

/-! V46 -/
namespace Go.Proofs.YteilnbnnhocciaaDoor.V
open Go.Proofs Go.Sort Go.Lib Go.RowKit Go.BigFrame Go.Proofs.YteilnbnnhocciaaDoorM Go.Proofs.YteilnbnnhocciaaDoorW.PrintWords Go.Proofs.YteilnbnnhocciaaDoorW.PrintLast Go.Proofs.YteilnbnnhocciaaDoorW.PrintMore Go.Proofs.YteilnbnnhocciaaDoor.KV
attribute [local go_sem] gtr_run leq_run geq_run
theorem touchC_on (f:FileV) (lo hi:ByteArray) (w:World):Calls Tryd.prog 104 #[fileVal f,.string lo,.string hi] w fun e w'=>e = .returned (.bool (touchB lo hi f)) ∧ RowKit.Below w.heap.size w w':=by
 obtain ⟨f0,f1,f2,f3,f4⟩:=f
 have HB:Hush (∀ o,RowKit.Below w.heap.size w (w.alloc o)):=⟨fun o=>(RowKit.Below.refl _ _).alloc (Nat.le_refl _) o⟩
 simp only [fileVal,fileCells,touchB,leB]
 by_cases h:Op.bytesLess hi.toList f3.toList = true
 ·go_enter Tryd.func104,Tryd.ntmps104
  go_wp2
  go_ret
  exact ⟨by simp [h],HB.out _⟩
 ·have h':Op.bytesLess hi.toList f3.toList = false:=by simpa using h
  clear h
  go_enter Tryd.func104,Tryd.ntmps104
  go_wp2
  go_ret
  exact ⟨by simp [h'],HB.out _⟩
theorem is_on (lv:Nat) (hlv:lv < 4) (w:World):Calls Tryd.prog 103 #[.int .i64 lv] w fun e w'=>e = .returned (.bool true) ∧ w' = w:=by
 have h1:(0:Int) ≤ (lv:Int):=by omega
 have h2:(lv:Int) < 4:=by omega
 go_enter Tryd.func103,Tryd.ntmps103
 go_wp2
 go_ret
 exact ⟨by simp [h1,h2],rfl⟩
structure OvSt (w0:World) (lo hi:ByteArray) (L:List FileV) (k:Nat) (v:Value) (wx:World):Prop where
 below:RowKit.Below w0.heap.size w0 wx
 own:wx.ownsRow w0.heap.size 97 5 v (over (L.take k) lo hi).length (cellsF (over (L.take k) lo hi))
theorem over_snoc {L:List FileV} {k:Nat} {f:FileV} (hf:L[k]? = some f) (lo hi:ByteArray):over (L.take (k + 1)) lo hi = over (L.take k) lo hi ++ (if touchB lo hi f = true then [f] else []):=by
 obtain ⟨q1,q2⟩:=List.getElem?_eq_some_iff.1 hf
 unfold over
 rw [List.take_succ_eq_append_getElem q1,q2,List.filter_append]
 congr 1
 by_cases h:touchB lo hi f = true <;> simp [h]
theorem over_len (L:List FileV) (lo hi:ByteArray):(over L lo hi).length ≤ L.length:=List.length_filter_le _ _
set_option maxHeartbeats 8000000 in
set_option maxRecDepth 100000 in
theorem overlap_on (lv:Nat) (hlv:lv < 4) (lo hi:ByteArray) (F:Nat → List FileV) (A:Nat → Option Addr) (c:Nat → Nat) (w:World) (h:VerIn w F A c) (hl:(F lv).length ≤ 100000) :
  Calls Tryd.prog 50 #[.agg #[.slice (A 0) (F 0).length (c 0),.slice (A 1) (F 1).length (c 1),.slice (A 2) (F 2).length (c 2),.slice (A 3) (F 3).length (c 3)],.int .i64 lv,.string lo,.string hi] w fun e w'=>(∃ v,e = .returned v ∧ RowIs w' v (over (F lv) lo hi)) ∧ RowKit.Below w.heap.size w w':=by
 obtain ⟨i0,hi0,hz0,hz1,hz2⟩:=info_parts info97'
 obtain ⟨w1,hw1⟩:∃ w1,w1 = w.alloc (.cells #[.slice (A 0) (F 0).length (c 0),.slice (A 1) (F 1).length (c 1),.slice (A 2) (F 2).length (c 2),.slice (A 3) (F 3).length (c 3)] 79):=⟨_,rfl⟩
 have b1:RowKit.Below w.heap.size w w1:=by rw [hw1];exact (RowKit.Below.refl _ _).alloc (Nat.le_refl _) _
 have f1:Four w1 w.heap.size (fun i=>.slice (A i) (F i).length (c i)):=⟨79,by rw [hw1];exact World.alloc_heap_new w _⟩
 obtain ⟨L,hL⟩:∃ L,L = F lv:=⟨_,rfl⟩
 obtain ⟨AL,hAL⟩:∃ B,B = A lv:=⟨_,rfl⟩
 obtain ⟨cL,hcL⟩:∃ n,n = c lv:=⟨_,rfl⟩
 have hfv:=f1.cell lv hlv
 rw [← hL,← hAL,← hcL] at hfv
 have hrow:=(h lv hlv).1.below b1
 rw [← hL,← hAL] at hrow
 rw [← hL] at hl ⊢
 have HRO:=Hush.mk hrow
 have HB1:=Hush.mk b1
 have hlvz:(lv:Int) < 4:=by omega
 have hlv0:(0:Int) ≤ (lv:Int):=by omega
 have HLL:=Hush.mk hl
 rw [hw1] at hfv
 clear hL hAL hcL hrow h f1 b1 hl
 go_enter Tryd.func50,Tryd.ntmps50
 go_wp2_with (go_at_call 103;refine (is_on lv hlv _).mono ?_;rintro e w2 ⟨rfl,rfl⟩)
 rw [← hw1]
 clear hfv hw1
 go_loopw [9,19] (fun vv iv wr=>∃ (k:Nat) (An:Option Addr) (n cn:Nat),vv = .slice An n cn ∧ iv = .int .i64 k ∧ k ≤ L.length ∧ Hush (OvSt w1 lo hi L k (.slice An n cn) wr)) (fun _ iv _=>L.length - (intOf iv).toNat)
 case atStart=>exact ⟨0,none,0,0,rfl,by go_num,by omega,⟨⟨RowKit.Below.refl _ _,rfl,.inl ⟨rfl,rfl⟩⟩⟩⟩
 case round=>
  obtain ⟨k,An,n,cn,rfl,rfl,hk,HK⟩:=hrel
  by_cases hlt:k < L.length
  ·have hltz:(k:Int) < (L.length:Int):=by omega
   obtain ⟨kb,hkb⟩:∃ kb:Int,kb = 100000:=⟨_,rfl⟩
   have hkb1:(k:Int) < kb:=by have:=HLL.out;omega
   have hkb2:kb ≤ 9000000:=by omega
   clear hkb
   obtain ⟨f,hf⟩:∃ f,L[k]? = some f:=⟨_,List.getElem?_eq_getElem hlt⟩
   obtain ⟨ad,hAd,hat⟩:=HRO.out (by omega)
   subst hAd
   have hfx:=(hat k f hf).below HK.out.below
   have hov:=over_snoc hf lo hi
   have hnn:=own_n HK.out.own
   have hn2:n ≤ 100000:=by have:=over_len (L.take k) lo hi;rw [List.length_take] at this;have:=HLL.out;omega
   have HAN:=Hush.mk hnn
   have HOV:=Hush.mk hov
   obtain ⟨b,hb⟩:∃ b,b = touchB lo hi f:=⟨_,rfl⟩
   have HTO:Hush (∀ W,Calls Tryd.prog 104 #[fileVal f,.string lo,.string hi] W fun e w'=>e = .returned (.bool b) ∧ RowKit.Below W.heap.size W w'):=⟨fun W=>by rw [hb];exact touchC_on f lo hi W⟩
   cases b with
   | false=>
    have HN:Hush (∀ wy,RowKit.Below wr.heap.size wr wy → OvSt w1 lo hi L (k + 1) (.slice An n cn) wy):=⟨fun wy hy=>⟨HK.out.below.trans (hy.mono HK.out.below.size),by rw [hov,← hb,if_neg (by simp),List.append_nil];exact ownsRow_keep HK.out.own hy⟩⟩
    clear hat hf hov hnn hb
    obtain ⟨f0,f1,f2,f3,f4⟩:=f
    simp only [FileAt] at hfx
    obtain ⟨y0,y1,y2,y3,y4⟩:=hfx
    simp only [fileVal,fileCells] at HTO
    go_wp2_with (go_at_call 104;refine (HTO.out _).mono ?_;rintro e w5 ⟨rfl,hb5⟩;have HNX:=Hush.mk (HN.out _ (((RowKit.Below.refl wr.heap.size wr).alloc (Nat.le_refl _) _).trans (hb5.mono (by rw [size_alloc];omega))));clear hb5)
    go_roundw
    case rel=>exact ⟨k + 1,An,n,cn,rfl,by go_num,by omega,HNX⟩
    case measure=>simp [intOf];omega
   | true=>
    have HN:Hush (∀ wy w9 v',RowKit.Below wr.heap.size wr wy → wy.grownBy w9 (Value.slice An n cn).ownBlock → w9.ownsRow w1.heap.size 97 5 v' (n + 1) (cellsF (over (L.take k) lo hi) ++ encF f) → OvSt w1 lo hi L (k + 1) v' w9):=⟨fun wy w9 v' hy hg ho=>by
     refine ⟨(HK.out.below.trans (hy.mono HK.out.below.size)).grown hg (Nat.le_trans HK.out.below.size hy.size) (fun q hq=>(own_lt HK.out.own hq).1),?_⟩
     rw [hov,← hb,if_pos rfl,cellsF_append,cellsF_one,List.length_append,List.length_singleton,← hnn]
     exact ho⟩
    clear hat hf hov hnn hb
    obtain ⟨f0,f1,f2,f3,f4⟩:=f
    simp only [FileAt] at hfx
    obtain ⟨y0,y1,y2,y3,y4⟩:=hfx
    simp only [fileVal,fileCells] at HTO
    have HSZ:Hush (w1.heap.size ≤ wr.heap.size):=⟨HK.out.below.size⟩
    obtain ⟨fb,hfb⟩:∃ fb,fb = wr.heap.size:=⟨_,rfl⟩
    have HFB:=Hush.mk hfb
    clear hfb
    go_wp2_with (first
     | (go_at_call 104;refine (HTO.out _).mono ?_;rintro e w5 ⟨rfl,hb5⟩;have HB5:Hush (RowKit.Below wr.heap.size wr w5):=⟨((RowKit.Below.refl wr.heap.size wr).alloc (Nat.le_refl _) _).trans (hb5.mono (by rw [size_alloc];omega))⟩;obtain ⟨d0,d1,d2,d3,d4⟩:=five_box wr _ _ _ _ _ 97 _ rfl hb5;have HBX:Hush (∀ o,RowKit.Below wr.heap.size wr (w5.alloc o)):=⟨fun o=>HB5.out.alloc HB5.out.size o⟩;have HOW:Hush (∀ o,(w5.alloc o).ownsRow w1.heap.size 97 5 (.slice An n cn) n (cellsF (over (L.take k) lo hi))):=⟨fun o=>by have:=ownsRow_keep HK.out.own (HBX.out o);rwa [← HAN.out] at this⟩;clear hb5)
     | (at_builtin;refine wpList_append_own_at _ rfl _ _ 76 rfl w1.heap.size 97 i0 (.agg #[.int .u64 0,.int .u64 0,.int .u64 0,.string ⟨#[]⟩,.string ⟨#[]⟩]) 5 56 Tryd.underlying76 hi0 hz0 hz1 hz2 rfl (by decide) (.slice An n cn) _ _ rfl (HOW.out _) ⟨_,0,none⟩ 1 1 (encF ⟨f0,f1,f2,f3,f4⟩) rfl rfl (five_newb _ ⟨f0,f1,f2,f3,f4⟩ 97 _ rfl) (encF_one _) (by unfold maxLen;omega) (by omega) (by rw [size_alloc];have:=HSZ.out;have:=HB5.out.size;omega) ?_;intro v' w9 hown' hg' hnil hloc;obtain ⟨A9,c9,rfl⟩:=own_slice hown';have HNX:=Hush.mk (HN.out _ w9 _ (HBX.out _) hg' hown');clear hown' hg' hnil hloc))
    go_roundw
    case rel=>exact ⟨k + 1,A9,_,c9,rfl,by go_num,by omega,HNX⟩
    case measure=>simp [intOf];omega
  ·obtain rfl:k = L.length:=by omega
   have HE:Hush (RowIs wr (.slice An n cn) (over L lo hi) ∧ RowKit.Below w.heap.size w wr):=⟨by
    have ho:=HK.out.own
    rw [List.take_length] at ho
    obtain ⟨A9,c9,h1,h2,h3⟩:=own_files ho
    exact ⟨⟨A9,c9,h1,h2,h3⟩,HB1.out.trans (HK.out.below.mono HB1.out.size)⟩⟩
   go_wp2
   go_ret
   exact ⟨⟨_,rfl,HE.out.1⟩,HE.out.2⟩
end Go.Proofs.YteilnbnnhocciaaDoor.V

/-! V47 -/
namespace Go.Proofs.YteilnbnnhocciaaDoor.V
open Go.Proofs Go.Sort Go.Lib Go.RowKit Go.BigFrame Go.Proofs.YteilnbnnhocciaaDoorM Go.Proofs.YteilnbnnhocciaaDoorW.PrintWords Go.Proofs.YteilnbnnhocciaaDoorW.PrintLast Go.Proofs.YteilnbnnhocciaaDoorW.PrintMore Go.Proofs.YteilnbnnhocciaaDoor.KV
theorem sleq (a b:ByteArray):Op.stringOp .leq a b = pure (.bool (!Op.bytesLess b.toList a.toList)):=by
 rw [← bytesLess_flip]
 simp [Op.stringOp]
theorem sgeq (a b:ByteArray):Op.stringOp .geq a b = pure (.bool (!Op.bytesLess a.toList b.toList)):=by
 simp [Op.stringOp]
theorem min_run (ts:Array TypeId) (ty:TypeId) (a b:ByteArray) (w:World):(Builtin.min_ ts ty #[.string a,.string b]).run Tryd.prog w = .ok (.string (minB a b)) w:=by
 simp [Builtin.min_,Builtin.min2,minB,sleq,asBool]
 by_cases h:Op.bytesLess b.toList a.toList = true <;> simp [h]
theorem max_run (ts:Array TypeId) (ty:TypeId) (a b:ByteArray) (w:World):(Builtin.max_ ts ty #[.string a,.string b]).run Tryd.prog w = .ok (.string (maxB a b)) w:=by
 simp [Builtin.max_,Builtin.max2,maxB,sgeq,asBool]
 by_cases h:Op.bytesLess a.toList b.toList = true <;> simp [h]
theorem loFrom_snoc {L:List FileV} {k:Nat} {f:FileV} (hf:L[k]? = some f) (s:ByteArray):loFrom s (L.take (k + 1)) = minB (loFrom s (L.take k)) f.least:=by
 obtain ⟨q1,q2⟩:=List.getElem?_eq_some_iff.1 hf
 unfold loFrom
 rw [List.take_succ_eq_append_getElem q1,q2,List.foldl_append]
 rfl
theorem hiFrom_snoc {L:List FileV} {k:Nat} {f:FileV} (hf:L[k]? = some f) (s:ByteArray):hiFrom s (L.take (k + 1)) = maxB (hiFrom s (L.take k)) f.most:=by
 obtain ⟨q1,q2⟩:=List.getElem?_eq_some_iff.1 hf
 unfold hiFrom
 rw [List.take_succ_eq_append_getElem q1,q2,List.foldl_append]
 rfl
theorem loL_from {L:List FileV} {f:FileV} (h:L[0]? = some f):loL L = loFrom f.least L:=by
 match L,h with
 | x :: r,h=>obtain rfl:=Option.some.inj h;rfl
theorem hiL_from {L:List FileV} {f:FileV} (h:L[0]? = some f):hiL L = hiFrom f.most L:=by
 match L,h with
 | x :: r,h=>obtain rfl:=Option.some.inj h;rfl
attribute [local go_sem ↓] min_run max_run
set_option maxHeartbeats 8000000 in
set_option maxRecDepth 100000 in
theorem bounds_on (A:Option Addr) (L:List FileV) (c:Nat) (w:World) (h:FilesAt w A L) (h0:L ≠ []) (hl:L.length ≤ 100000) :
  Calls Tryd.prog 91 #[.slice A L.length c] w fun e w'=>e = .returned (.tuple #[.string (loL L),.string (hiL L)]) ∧ RowKit.Below w.heap.size w w':=by
 have mixed:Tryd.prog.follows .mixedOrders = true:=by kernel_rfl
 have hpos:0 < L.length:=List.length_pos_iff.2 h0
 obtain ⟨f,hf⟩:∃ f,L[0]? = some f:=⟨_,List.getElem?_eq_getElem hpos⟩
 obtain ⟨ad,hAd,hat⟩:=h hpos
 subst hAd
 have hx:=hat 0 f hf
 have HLO:=Hush.mk (loL_from hf)
 have HHI:=Hush.mk (hiL_from hf)
 have HAT:=Hush.mk hat
 have HL:=Hush.mk hl
 have hposz:(0:Int) < (L.length:Int):=by omega
 obtain ⟨lo,hlo⟩:∃ x,x = loL L:=⟨_,rfl⟩
 obtain ⟨hi,hhi⟩:∃ x,x = hiL L:=⟨_,rfl⟩
 rw [← hlo,← hhi]
 have HLH:=Hush.mk (And.intro hlo hhi)
 obtain ⟨f0,f1,f2,f3,f4⟩:=f
 simp only [FileAt,Nat.zero_mul] at hx
 obtain ⟨x0,x1,x2,x3,x4⟩:=hx
 clear h h0 hat hf hl hlo hhi
 have x3':w.cell? ⟨ad.block,ad.off + 3,none⟩ = some (.string f3):=x3
 have x4':w.cell? ⟨ad.block,ad.off + 4,none⟩ = some (.string f4):=x4
 go_enter Tryd.func91,Tryd.ntmps91
 go_wp2_with fail
 go_quiet (fail)
 clear x0 x1 x2 x3 x4 x3' x4'
 go_wp2_with fail
 obtain ⟨w1,hw1⟩:∃ w1,w1 = w.drewN nq:=⟨_,rfl⟩
 have HB1:Hush (RowKit.Below w.heap.size w w1):=⟨by rw [hw1];exact ⟨rfl,rfl,rfl,Nat.le_refl _,fun _ _=>rfl⟩⟩
 rw [← hw1]
 clear hw1
 go_loopw [4,5,18] (fun a b iv wr=>∃ k:Nat,a = .string (loFrom f3 (L.take k)) ∧ b = .string (hiFrom f4 (L.take k)) ∧ iv = .int .i64 k ∧ k ≤ L.length ∧ Hush (RowKit.Below w.heap.size w wr)) (fun _ _ iv _=>L.length - (intOf iv).toNat)
 case atStart=>exact ⟨0,rfl,rfl,by go_num,by omega,HB1⟩
 case round=>
  obtain ⟨k,rfl,rfl,rfl,hk,HK⟩:=hrel
  by_cases hlt:k < L.length
  ·have hltz:(k:Int) < (L.length:Int):=by omega
   obtain ⟨kb,hkb⟩:∃ kb:Int,kb = 100000:=⟨_,rfl⟩
   have hkb1:(k:Int) < kb:=by have:=HL.out;omega
   have hkb2:kb ≤ 9000000:=by omega
   clear hkb
   obtain ⟨g,hg⟩:∃ f,L[k]? = some f:=⟨_,List.getElem?_eq_getElem hlt⟩
   have hx:=(HAT.out k g hg).below HK.out
   have HN:=Hush.mk (And.intro (loFrom_snoc hg f3) (hiFrom_snoc hg f4))
   obtain ⟨s,hs⟩:∃ s,s = loFrom f3 (L.take k):=⟨_,rfl⟩
   obtain ⟨t,ht⟩:∃ t,t = hiFrom f4 (L.take k):=⟨_,rfl⟩
   rw [← hs,← ht]
   rw [← hs,← ht] at HN
   clear hg hs ht
   obtain ⟨g0,g1,g2,g3,g4⟩:=g
   simp only [FileAt] at hx
   obtain ⟨y0,y1,y2,y3,y4⟩:=hx
   have HBX:Hush (∀ q,RowKit.Below w.heap.size w ((wr.alloc (.cells #[.int .u64 g0,.int .u64 g1,.int .u64 g2,.string g3,.string g4] 97)).drewN q)):=⟨fun q=>by
    have:=HK.out.alloc HK.out.size (.cells #[.int .u64 g0,.int .u64 g1,.int .u64 g2,.string g3,.string g4] 97)
    exact ⟨this.os,this.tape,this.output,this.size,this.block⟩⟩
   have b5:=five_box wr (.int .u64 g0) (.int .u64 g1) (.int .u64 g2) (.string g3) (.string g4) 97 _ rfl (RowKit.Below.refl _ _)
   have c3:=b5.2.2.2.1
   have c4:=b5.2.2.2.2
   clear b5
   go_wp2_with fail
   clear y0 y1 y2 y3 y4
   generalize wr.alloc (.cells #[.int .u64 g0,.int .u64 g1,.int .u64 g2,.string g3,.string g4] 97) = w5 at HBX c3 c4 ⊢
   go_quiet (fail)
   go_wp2
   go_roundw
   case rel=>exact ⟨k + 1,by rw [HN.out.1],by rw [HN.out.2],by go_num,by omega,⟨HBX.out _⟩⟩
   case measure=>simp [intOf];omega
  ·obtain rfl:k = L.length:=by omega
   have HE:Hush (loFrom f3 L = lo ∧ hiFrom f4 L = hi):=⟨by rw [HLH.out.1,HLH.out.2,HLO.out,HHI.out];exact ⟨rfl,rfl⟩⟩
   rw [List.take_length]
   go_wp2
   exact bodyPost_ret (v:=.tuple #[.string (loFrom f3 L),.string (hiFrom f4 L)]) (by simp [results,Tryd.results91,go_sem]) rfl ⟨by rw [HE.out.1,HE.out.2],HK.out⟩
end Go.Proofs.YteilnbnnhocciaaDoor.V

/-! V48 -/
namespace Go.Proofs.YteilnbnnhocciaaDoor.V
open Go.Proofs Go.Sort Go.Lib Go.RowKit Go.BigFrame Go.Proofs.YteilnbnnhocciaaDoorM Go.Proofs.YteilnbnnhocciaaDoorW.PrintWords Go.Proofs.YteilnbnnhocciaaDoorW.PrintLast Go.Proofs.YteilnbnnhocciaaDoorW.PrintMore Go.Proofs.YteilnbnnhocciaaDoor.KV
def Three (w:World) (b:Nat) (x y z:Value):Prop:=∃ t,w.heap[b]? = some (.cells #[x,y,z] t)
theorem Three.cells {w:World} {b:Nat} {x y z:Value} (h:Three w b x y z):w.cell? ⟨b,0,none⟩ = some x ∧ w.cell? ⟨b,1,none⟩ = some y ∧ w.cell? ⟨b,2,none⟩ = some z ∧ ∀ i,w.frozen? ⟨b,i,none⟩ = false:=by
 obtain ⟨t,h⟩:=h
 simp only [World.cell?,World.frozen?,h]
 exact ⟨rfl,rfl,rfl,fun i=>by simp⟩
theorem Three.lt {w:World} {b:Nat} {x y z:Value} (h:Three w b x y z):b < w.heap.size:=by
 obtain ⟨t,h⟩:=h
 exact (Array.getElem?_eq_some_iff.1 h).1
theorem Three.keep {w w':World} {b:Nat} {x y z:Value} (h:Three w b x y z) (hb:w'.heap[b]? = w.heap[b]?):Three w' b x y z:=by
 obtain ⟨t,h⟩:=h
 exact ⟨t,hb.trans h⟩
theorem Three.below {w w':World} {b:Nat} {x y z:Value} (h:Three w b x y z) (hb:RowKit.Below w.heap.size w w'):Three w' b x y z:=h.keep (hb.block b h.lt)
theorem Three.set1 {w:World} {b:Nat} {x y z:Value} (h:Three w b x y z) (v:Value):Three (w.setCell ⟨b,1,none⟩ v) b x v z:=by
 obtain ⟨t,h⟩:=h
 exact ⟨t,set_cells h 1 v⟩
theorem Three.set2 {w:World} {b:Nat} {x y z:Value} (h:Three w b x y z) (v:Value):Three (w.setCell ⟨b,2,none⟩ v) b x y v:=by
 obtain ⟨t,h⟩:=h
 exact ⟨t,set_cells h 2 v⟩
theorem Three.no_file {w:World} {b:Nat} {n:Int} {A B:Option Addr} {k l c d:Nat} (h:Three w b (.int .i64 n) (.slice A k c) (.slice B l d)) {p:Addr} (hp:p.block = b) {x:Int} (hx:w.cell? p = some (.int .u64 x)):False:=by
 obtain ⟨t,h⟩:=h
 subst hp
 simp only [World.cell?,h] at hx
 match hq:p.off,hx with
 | 0,hx=>simp at hx
 | 1,hx=>simp at hx
 | 2,hx=>simp at hx
 | n + 3,hx=>simp at hx
theorem Three.files {w:World} {b:Nat} {n:Int} {A B:Option Addr} {k l c d:Nat} (h:Three w b (.int .i64 n) (.slice A k c) (.slice B l d)) (i:Nat) (v:Value) {C:Option Addr} {L:List FileV} (hC:FilesAt w C L):FilesAt (w.setCell ⟨b,i,none⟩ v) C L:=fun h0=>by
 obtain ⟨ad,e,hc⟩:=hC h0
 exact ⟨ad,e,fun j x hx=>(hc j x hx).far (fun e2=>h.no_file e2 (hc j x hx).1) v⟩
theorem Three.row {w:World} {b:Nat} {n:Int} {A B:Option Addr} {k l c d:Nat} (h:Three w b (.int .i64 n) (.slice A k c) (.slice B l d)) (i:Nat) (v:Value) {u:Value} {L:List FileV} (hC:RowIs w u L):RowIs (w.setCell ⟨b,i,none⟩ v) u L:=by
 obtain ⟨A',c',h1,h2,h3⟩:=hC
 exact ⟨A',c',h1,h.files i v h2,h3⟩
theorem RowIs.below {w w':World} {v:Value} {L:List FileV} (h:RowIs w v L) (hb:RowKit.Below w.heap.size w w'):RowIs w' v L:=by
 obtain ⟨A,c,h1,h2,h3⟩:=h
 exact ⟨A,c,h1,h2.below hb,h3⟩
def placeOf (choice:Int) (n:Nat):Nat:=(IntKind.u64.wrap choice % (n:Int)).toNat
theorem placeOf_lt (choice:Int) {n:Nat} (hn:0 < n):placeOf choice n < n:=by
 unfold placeOf
 have h1:0 ≤ IntKind.u64.wrap choice % (n:Int):=Int.emod_nonneg _ (by omega)
 have h2:IntKind.u64.wrap choice % (n:Int) < n:=Int.emod_lt_of_pos _ (by omega)
 omega
def PickUp (lv:Nat) (L:List FileV) (x0:FileV) (up:List FileV):Prop:=if lv = 0 then Shut L x0 up ∧ up.Sublist L else up = [x0]
def noPick (F:Nat → List FileV) (level:Int):Prop:=level < 0 ∨ 3 ≤ level ∨ F level.toNat = []
set_option maxHeartbeats 8000000 in
set_option maxRecDepth 100000 in
theorem pick_none (F:Nat → List FileV) (A:Nat → Option Addr) (c:Nat → Nat) (level choice:Int) (w:World) (hn:noPick F level) :
  Calls Tryd.prog 40 #[.agg #[.slice (A 0) (F 0).length (c 0),.slice (A 1) (F 1).length (c 1),.slice (A 2) (F 2).length (c 2),.slice (A 3) (F 3).length (c 3)],.int .i64 level,.int .i64 choice] w fun e w'=>e = .returned (.tuple #[.agg #[.int .i64 0,.slice none 0 0,.slice none 0 0],.bool false]) ∧ RowKit.Below w.heap.size w w':=by
 obtain ⟨w1,hw1⟩:∃ w1,w1 = (w.alloc (.cells #[.slice (A 0) (F 0).length (c 0),.slice (A 1) (F 1).length (c 1),.slice (A 2) (F 2).length (c 2),.slice (A 3) (F 3).length (c 3)] 79)).alloc (.cells #[.int .i64 0,.slice none 0 0,.slice none 0 0] 87):=⟨_,rfl⟩
 have z1:=size_alloc w (.cells #[.slice (A 0) (F 0).length (c 0),.slice (A 1) (F 1).length (c 1),.slice (A 2) (F 2).length (c 2),.slice (A 3) (F 3).length (c 3)] 79)
 have b0:RowKit.Below w.heap.size w (w.alloc (.cells #[.slice (A 0) (F 0).length (c 0),.slice (A 1) (F 1).length (c 1),.slice (A 2) (F 2).length (c 2),.slice (A 3) (F 3).length (c 3)] 79)):=(RowKit.Below.refl _ _).alloc (Nat.le_refl _) _
 have HB:=Hush.mk (b0.alloc b0.size (.cells #[.int .i64 0,.slice none 0 0,.slice none 0 0] 87))
 have f0:Four (w.alloc (.cells #[.slice (A 0) (F 0).length (c 0),.slice (A 1) (F 1).length (c 1),.slice (A 2) (F 2).length (c 2),.slice (A 3) (F 3).length (c 3)] 79)) w.heap.size (fun i=>.slice (A i) (F i).length (c i)):=⟨79,World.alloc_heap_new w _⟩
 have f1:=f0.below ((RowKit.Below.refl _ _).alloc (Nat.le_refl _) (.cells #[.int .i64 0,.slice none 0 0,.slice none 0 0] 87))
 clear z1 b0 f0
 by_cases h1:level < 0
 ·have h1b:decide (level < 0) = true:=by simpa using h1
  go_enter Tryd.func40,Tryd.ntmps40
  go_wp2
  refine wp_scope_jumps 0 (fun _ _=>False) (fun _ _=>0) rfl ?_ (fun a w h=>h.elim)
  go_wp2
  refine (?_:bodyPost Tryd.prog Tryd.f40 (fun e w'=>e = .returned (.tuple #[.agg #[.int .i64 0,.slice none 0 0,.slice none 0 0],.bool false]) ∧ RowKit.Below w.heap.size w w') .ret _ _)
  exact bodyPost_ret (v:=.tuple #[.agg #[.int .i64 0,.slice none 0 0,.slice none 0 0],.bool false]) (by simp [results,Tryd.results40,go_sem]) rfl ⟨rfl,HB.out⟩
 ·have h1b:decide (level < 0) = false:=by simpa using h1
  by_cases h2:3 ≤ level
  ·have h2b:decide (3 ≤ level) = true:=by simpa using h2
   go_enter Tryd.func40,Tryd.ntmps40
   go_wp2
   refine wp_scope_jumps 0 (fun _ _=>False) (fun _ _=>0) rfl ?_ (fun a w h=>h.elim)
   go_wp2
   refine (?_:bodyPost Tryd.prog Tryd.f40 (fun e w'=>e = .returned (.tuple #[.agg #[.int .i64 0,.slice none 0 0,.slice none 0 0],.bool false]) ∧ RowKit.Below w.heap.size w w') .ret _ _)
   exact bodyPost_ret (v:=.tuple #[.agg #[.int .i64 0,.slice none 0 0,.slice none 0 0],.bool false]) (by simp [results,Tryd.results40,go_sem]) rfl ⟨rfl,HB.out⟩
  ·obtain ⟨lv,rfl⟩:∃ lv:Nat,level = (lv:Int):=⟨level.toNat,by omega⟩
   have hlv:lv < 3:=by omega
   have hF:F lv = []:=by rcases hn with h | h | h <;> first | omega | simpa using h
   have hz:(F lv).length = 0:=by rw [hF];rfl
   have hc:=f1.cell lv (by omega)
   simp only [hz] at hc
   have j1:(lv:Int) < 4:=by omega
   have j2:(lv:Int) < 3:=by omega
   have j0:(0:Int) ≤ (lv:Int):=by omega
   have h2b:decide (3 ≤ (lv:Int)) = false:=by simpa using h2
   clear hn hF hz f1
   go_enter Tryd.func40,Tryd.ntmps40
   go_wp2
   refine wp_scope_jumps 0 (fun _ _=>False) (fun _ _=>0) rfl ?_ (fun a w h=>h.elim)
   go_wp2
   refine (?_:bodyPost Tryd.prog Tryd.f40 (fun e w'=>e = .returned (.tuple #[.agg #[.int .i64 0,.slice none 0 0,.slice none 0 0],.bool false]) ∧ RowKit.Below w.heap.size w w') .ret _ _)
   exact bodyPost_ret (v:=.tuple #[.agg #[.int .i64 0,.slice none 0 0,.slice none 0 0],.bool false]) (by simp [results,Tryd.results40,go_sem]) rfl ⟨rfl,HB.out⟩
end Go.Proofs.YteilnbnnhocciaaDoor.V

/-! V49 -/
namespace Go.Proofs.YteilnbnnhocciaaDoor.V
open Go.Proofs Go.Sort Go.Lib Go.RowKit Go.BigFrame Go.Proofs.YteilnbnnhocciaaDoorM Go.Proofs.YteilnbnnhocciaaDoorW.PrintWords Go.Proofs.YteilnbnnhocciaaDoorW.PrintLast Go.Proofs.YteilnbnnhocciaaDoorW.PrintMore Go.Proofs.YteilnbnnhocciaaDoor.KV
def PkPost (w:World) (lv:Nat) (F:Nat → List FileV) (x0:FileV) (e:Ending) (w':World):Prop:=
 ∃ up vU vL,PickUp lv (F lv) x0 up ∧ e = .returned (.tuple #[.agg #[.int .i64 lv,vU,vL],.bool true]) ∧ RowIs w' vU up ∧ RowIs w' vL (over (F (lv + 1)) (loL up) (hiL up)) ∧ RowKit.Below w.heap.size w w'
structure PkSt (w:World) (lv:Nat) (F:Nat → List FileV) (A:Nat → Option Addr) (c:Nat → Nat) (up:List FileV) (v:Value) (W:World):Prop where
 vbox:Four W w.heap.size (fun i=>.slice (A i) (F i).length (c i))
 r:Three W (w.heap.size + 1) (.int .i64 0) (.slice none 0 0) (.slice none 0 0)
 p:Three W (w.heap.size + 1 + 1 + 1) (.int .i64 lv) v (.slice none 0 0)
 row:RowIs W v up
 ver:VerIn W F A c
 below:RowKit.Below w.heap.size w W
 size:w.heap.size + 4 ≤ W.heap.size
theorem PkSt.step {w:World} {lv:Nat} {F:Nat → List FileV} {A:Nat → Option Addr} {c:Nat → Nat} {up:List FileV} {v:Value} {W W':World} (h:PkSt w lv F A c up v W) (hb:RowKit.Below W.heap.size W W'):PkSt w lv F A c up v W':=
 ⟨h.vbox.below hb,h.r.below hb,h.p.below hb,h.row.below hb,h.ver.below hb,h.below.trans (hb.mono h.below.size),Nat.le_trans h.size hb.size⟩
theorem PkSt.up {w:World} {lv:Nat} {F:Nat → List FileV} {A:Nat → Option Addr} {c:Nat → Nat} {up up':List FileV} {v v':Value} {W:World} (h:PkSt w lv F A c up v W) (hr:RowIs W v' up'):PkSt w lv F A c up' v' (W.setCell ⟨w.heap.size + 1 + 1 + 1,1,none⟩ v'):=by
 obtain ⟨B,d,rfl,_⟩:=h.row
 have far:∀ k,k ≠ w.heap.size + 1 + 1 + 1 → (W.setCell ⟨w.heap.size + 1 + 1 + 1,1,none⟩ v').heap[k]? = W.heap[k]?:=fun k hk=>Below.heap_setCell W ⟨w.heap.size + 1 + 1 + 1,1,none⟩ v' k hk
 exact ⟨h.vbox.keep (far _ (by omega)),h.r.keep (far _ (by omega)),h.p.set1 v',h.p.row 1 v' hr,fun i hi=>⟨h.p.files 1 v' (h.ver i hi).1,(h.ver i hi).2⟩,h.below.setCell (p:=⟨w.heap.size + 1 + 1 + 1,1,none⟩) (by show _ ≤ _ + 1 + 1 + 1;omega) _,by rw [World.size_setCell];exact h.size⟩
theorem pick_start (w:World) (lv:Nat) (F:Nat → List FileV) (A:Nat → Option Addr) (c:Nat → Nat) (x0:FileV) (h:VerIn w F A c):∀ w1,w1 = (((w.alloc (.cells #[.slice (A 0) (F 0).length (c 0),.slice (A 1) (F 1).length (c 1),.slice (A 2) (F 2).length (c 2),.slice (A 3) (F 3).length (c 3)] 79)).alloc (.cells #[.int .i64 0,.slice none 0 0,.slice none 0 0] 87)).alloc (.cells #[.int .u64 x0.num,.int .u64 x0.size,.int .u64 x0.count,.string x0.least,.string x0.most] 97)).alloc (.cells #[.int .i64 lv,.slice (some ⟨w.heap.size + 1 + 1,0,none⟩) 1 1,.slice none 0 0] 87) →
  PkSt w lv F A c [x0] (.slice (some ⟨w.heap.size + 1 + 1,0,none⟩) 1 1) w1:=by
 intro w1 hw1
 have bl:∀ (W:World) (o:Obj),RowKit.Below W.heap.size W (W.alloc o):=fun W o=>(RowKit.Below.refl _ _).alloc (Nat.le_refl _) o
 generalize ha:w.alloc (.cells #[.slice (A 0) (F 0).length (c 0),.slice (A 1) (F 1).length (c 1),.slice (A 2) (F 2).length (c 2),.slice (A 3) (F 3).length (c 3)] 79) = wa at hw1
 have f1:Four wa w.heap.size (fun i=>.slice (A i) (F i).length (c i)):=⟨79,by rw [← ha];exact World.alloc_heap_new w _⟩
 have za:wa.heap.size = w.heap.size + 1:=by rw [← ha,size_alloc]
 have ba:RowKit.Below w.heap.size w wa:=by rw [← ha];exact bl _ _
 generalize hb:wa.alloc (.cells #[.int .i64 0,.slice none 0 0,.slice none 0 0] 87) = wb at hw1
 have f2:Three wb (w.heap.size + 1) (.int .i64 0) (.slice none 0 0) (.slice none 0 0):=⟨87,by rw [← hb,← za];exact World.alloc_heap_new wa _⟩
 have zb:wb.heap.size = w.heap.size + 2:=by rw [← hb,size_alloc];omega
 have bb:RowKit.Below wa.heap.size wa wb:=by rw [← hb];exact bl _ _
 generalize hc:wb.alloc (.cells #[.int .u64 x0.num,.int .u64 x0.size,.int .u64 x0.count,.string x0.least,.string x0.most] 97) = wc at hw1
 have f3:FileAt wc ⟨w.heap.size + 1 + 1,0,none⟩ x0:=by
  have:=fileAt_new wb x0 97
  rw [zb] at this
  rw [← hc]
  exact this
 have zc:wc.heap.size = w.heap.size + 3:=by rw [← hc,size_alloc];omega
 have bc:RowKit.Below wb.heap.size wb wc:=by rw [← hc];exact bl _ _
 have bd:RowKit.Below wc.heap.size wc w1:=by rw [hw1];exact bl _ _
 have b2:=ba.trans (bb.mono ba.size)
 have b3:=b2.trans (bc.mono b2.size)
 have b4:=b3.trans (bd.mono b3.size)
 refine ⟨((f1.below bb).below bc).below bd,(f2.below bc).below bd,⟨87,by rw [hw1,show w.heap.size + 1 + 1 + 1 = wc.heap.size by omega];exact World.alloc_heap_new wc _⟩,⟨some ⟨w.heap.size + 1 + 1,0,none⟩,1,rfl,fun _=>⟨_,rfl,fun i x hx=>?_⟩,Nat.le_refl _⟩,h.below b4,b4,by rw [hw1,size_alloc];omega⟩
 match i,hx with
 | 0,hx=>obtain rfl:=Option.some.inj hx;exact f3.below bd
 | i + 1,hx=>simp at hx
def Hop (P:Program) (l:Nat) (rest:Code) (Q:Exit → Act → World → Prop) (a:Act) (w:World):Prop:=rest.wp P (Exit.jump l (fun _ _=>False) Q) a w
theorem wp_scope_once {P:Program} {a:Act} {w:World} {Q:Exit → Act → World → Prop} {c rest:Code} (l:Nat) (hf:findLabel c l = some rest) (first:c.wp P (Exit.jump l (fun a w=>Hop P l rest Q a w) Q) a w):(Code.scope c).wp P Q a w:=
 wp_scope_jumps l (fun a w=>Hop P l rest Q a w) (fun _ _=>0) hf first (fun a w h=>wp_mono (show rest.wp P (Exit.jump l (fun _ _=>False) Q) a w from h) (Exit.jump_mono fun a w hh=>hh.elim))
theorem Three.put {W:World} {b:Nat} {n0:Int} {A0 B0:Option Addr} {k0 l0 c0 d0:Nat} (h:Three W b (.int .i64 n0) (.slice A0 k0 c0) (.slice B0 l0 d0)) (m:Int) (A B:Option Addr) (k l c d:Nat) :
  ∀ W',W' = ((W.setCell ⟨b,0,none⟩ (.int .i64 m)).setCell ⟨b,1,none⟩ (.slice A k c)).setCell ⟨b,2,none⟩ (.slice B l d) →
   Three W' b (.int .i64 m) (.slice A k c) (.slice B l d) ∧ (∀ u L,RowIs W u L → RowIs W' u L) ∧ (∀ base w,base ≤ b → RowKit.Below base w W → RowKit.Below base w W'):=by
 intro W' hW
 subst hW
 have h1:Three (W.setCell ⟨b,0,none⟩ (.int .i64 m)) b (.int .i64 m) (.slice A0 k0 c0) (.slice B0 l0 d0):=by
  obtain ⟨t,h⟩:=h
  exact ⟨t,set_cells h 0 _⟩
 have h2:=h1.set1 (.slice A k c)
 have h3:=h2.set2 (.slice B l d)
 exact ⟨h3,fun u L hu=>h2.row 2 _ (h1.row 1 _ (h.row 0 _ hu)),fun base w hb hB=>((hB.setCell (p:=⟨b,0,none⟩) hb _).setCell (p:=⟨b,1,none⟩) hb _).setCell (p:=⟨b,2,none⟩) hb _⟩
set_option maxHeartbeats 8000000 in
set_option maxRecDepth 100000 in
theorem pick_low (lv:Nat) (hlv1:0 < lv) (hlv3:lv < 3) (F:Nat → List FileV) (A:Nat → Option Addr) (c:Nat → Nat) (choice:Int) (x0:FileV) (w:World) (h:VerIn w F A c) (hl:∀ i,(F i).length ≤ 100000) (h0:F lv ≠ []) (hx0:(F lv)[placeOf choice (F lv).length]? = some x0) :
  Calls Tryd.prog 40 #[.agg #[.slice (A 0) (F 0).length (c 0),.slice (A 1) (F 1).length (c 1),.slice (A 2) (F 2).length (c 2),.slice (A 3) (F 3).length (c 3)],.int .i64 lv,.int .i64 choice] w (PkPost w lv F x0):=by
 obtain ⟨w1,hw1⟩:∃ w1,w1 = (w.alloc (.cells #[.slice (A 0) (F 0).length (c 0),.slice (A 1) (F 1).length (c 1),.slice (A 2) (F 2).length (c 2),.slice (A 3) (F 3).length (c 3)] 79)).alloc (.cells #[.int .i64 0,.slice none 0 0,.slice none 0 0] 87):=⟨_,rfl⟩
 have f0:Four (w.alloc (.cells #[.slice (A 0) (F 0).length (c 0),.slice (A 1) (F 1).length (c 1),.slice (A 2) (F 2).length (c 2),.slice (A 3) (F 3).length (c 3)] 79)) w.heap.size (fun i=>.slice (A i) (F i).length (c i)):=⟨79,World.alloc_heap_new w _⟩
 have f1:=f0.below ((RowKit.Below.refl _ _).alloc (Nat.le_refl _) (.cells #[.int .i64 0,.slice none 0 0,.slice none 0 0] 87))
 have b0:RowKit.Below w.heap.size w (w.alloc (.cells #[.slice (A 0) (F 0).length (c 0),.slice (A 1) (F 1).length (c 1),.slice (A 2) (F 2).length (c 2),.slice (A 3) (F 3).length (c 3)] 79)):=(RowKit.Below.refl _ _).alloc (Nat.le_refl _) _
 have b1:=b0.alloc b0.size (.cells #[.int .i64 0,.slice none 0 0,.slice none 0 0] 87)
 obtain ⟨L,hL⟩:∃ L,L = F lv:=⟨_,rfl⟩
 have hfv:=f1.cell lv (by omega)
 have hrow:=(h lv (by omega)).1.below b1
 rw [← hL] at hx0 h0 hrow hfv
 have hpos:0 < L.length:=List.length_pos_iff.2 h0
 obtain ⟨ad,hAd,hat⟩:=hrow hpos
 obtain ⟨i,hi⟩:∃ i,i = placeOf choice L.length:=⟨_,rfl⟩
 rw [← hi] at hx0
 have hin:i < L.length:=(List.getElem?_eq_some_iff.1 hx0).1
 have hx:=hat i x0 hx0
 rw [hAd] at hfv
 obtain ⟨n,hn⟩:∃ n,n = L.length:=⟨_,rfl⟩
 rw [← hn] at hfv hpos hin hi
 have hrem:IntKind.u64.wrap choice % (n:Int) = (i:Int):=by
  rw [hi]
  unfold placeOf
  have h1:0 ≤ IntKind.u64.wrap choice % (n:Int):=Int.emod_nonneg _ (by omega)
  omega
 have hnn:0 ≤ IntKind.u64.wrap choice:=by
  simp only [IntKind.wrap]
  exact Int.emod_nonneg _ (by decide)
 have hwn:IntKind.u64.wrap (n:Int) = (n:Int):=by
  have:=hl lv
  rw [← hL,← hn] at this
  have e:IntKind.u64.wrap (n:Int) = (n:Int) % 18446744073709551616:=rfl
  rw [e]
  omega
 obtain ⟨x00,x01,x02,x03,x04⟩:=x0
 simp only [FileAt] at hx
 obtain ⟨y0,y1,y2,y3,y4⟩:=hx
 have jw:IntKind.u64.wrap (n:Int) = (n:Int):=hwn
 have jt:(IntKind.u64.wrap choice).tmod (n:Int) = (i:Int):=by
  rw [← hrem,Int.tmod_eq_emod_of_nonneg hnn]
 have j0:(0:Int) ≤ (lv:Int):=by omega
 have j1:(lv:Int) < 4:=by omega
 have j2:(lv:Int) < 3:=by omega
 have j3:(0:Int) < (lv:Int):=by omega
 have j4:¬ (lv:Int) < 0:=by omega
 have j5:decide ((lv:Int) < 0) = false:=decide_eq_false (by omega)
 have j6:decide (3 ≤ (lv:Int)) = false:=by simpa using (by omega:¬ 3 ≤ (lv:Int))
 have j7:((n:Int) == 0) = false:=by simpa using (by omega:¬ n = 0)
 have j8:(i:Int) < (n:Int):=by omega
 have j9:(0:Int) ≤ (i:Int):=by omega
 have j10:¬ (n:Int) = 0:=by omega
 have HV:=Hush.mk h
 have HLL:=Hush.mk hl
 clear f0 b0 b1 hat hL hAd hi hn h hl
 go_enter Tryd.func40,Tryd.ntmps40
 go_wp2
 refine wp_scope_once 0 rfl ?_
 go_wp2_with fail
 generalize hw4:(((w.alloc (.cells #[.slice (A 0) (F 0).length (c 0),.slice (A 1) (F 1).length (c 1),.slice (A 2) (F 2).length (c 2),.slice (A 3) (F 3).length (c 3)] 79)).alloc (.cells #[.int .i64 0,.slice none 0 0,.slice none 0 0] 87)).alloc (.cells #[.int .u64 x00,.int .u64 x01,.int .u64 x02,.string x03,.string x04] 97)).alloc (.cells #[.int .i64 (lv:Int),.slice (some ⟨w.heap.size + 1 + 1,0,none⟩) 1 1,.slice none 0 0] 87) = w4
 have HS0:Hush (PkSt w lv F A c [⟨x00,x01,x02,x03,x04⟩] (.slice (some ⟨w.heap.size + 1 + 1,0,none⟩) 1 1) w4):=⟨pick_start w lv F A c ⟨x00,x01,x02,x03,x04⟩ HV.out w4 hw4.symm⟩
 clear hw4 y0 y1 y2 y3 y4 hfv hrow f1 hx0 hrem hnn hwn jt
 have HONE:Hush (FilesAt w4 (some ⟨w.heap.size + 1 + 1,0,none⟩) [⟨x00,x01,x02,x03,x04⟩]):=by
  obtain ⟨A',c',e,hf,_⟩:=HS0.out.row
  cases e
  exact ⟨hf⟩
 refine (bounds_on _ [⟨x00,x01,x02,x03,x04⟩] 1 _ HONE.out (by simp) (by simp)).mono ?_
 rintro e w5 ⟨rfl,hb5⟩
 have HS1:=Hush.mk (HS0.out.step hb5)
 have HB5:=Hush.mk hb5
 clear hb5
 have g0:=HS1.out.vbox.cell 0 (by omega)
 have g1:=HS1.out.vbox.cell 1 (by omega)
 have g2:=HS1.out.vbox.cell 2 (by omega)
 have g3:=HS1.out.vbox.cell 3 (by omega)
 go_wp2_with fail
 refine wp_goto ?_
 refine ⟨rfl,?_⟩
 unfold Hop
 go_wp2_with fail
 have hov:=overlap_on (lv + 1) (by omega) (loL [⟨x00,x01,x02,x03,x04⟩]) (hiL [⟨x00,x01,x02,x03,x04⟩]) F A c w5 HS1.out.ver (HLL.out _)
 rw [show ((lv + 1:Nat):Int) = (lv:Int) + 1 by omega] at hov
 refine hov.mono ?_
 clear hov g0 g1 g2 g3
 rintro e w6 ⟨⟨vL,rfl,hvL⟩,hb6⟩
 have HS2:=Hush.mk (HS1.out.step hb6)
 clear hb6
 have HVL:=Hush.mk hvL
 obtain ⟨BL,dL,eL,hL1,hL2⟩:=hvL
 obtain ⟨m,hm⟩:∃ m,m = (over (F (lv + 1)) (loL [⟨x00,x01,x02,x03,x04⟩]) (hiL [⟨x00,x01,x02,x03,x04⟩])).length:=⟨_,rfl⟩
 rw [← hm] at eL
 clear hm hL1 hL2
 subst eL
 have q2:=HS2.out.p.cells
 have p6:w6.cell? ⟨w.heap.size + 1 + 1 + 1,2,none⟩ = some (.slice none 0 0):=q2.2.2.1
 have z6:w6.frozen? ⟨w.heap.size + 1 + 1 + 1,2,none⟩ = false:=q2.2.2.2 2
 clear q2
 have HP7:Hush (Three (w6.setCell ⟨w.heap.size + 1 + 1 + 1,2,none⟩ (.slice BL m dL)) (w.heap.size + 1 + 1 + 1) (.int .i64 lv) (.slice (some ⟨w.heap.size + 1 + 1,0,none⟩) 1 1) (.slice BL m dL)):=⟨HS2.out.p.set2 _⟩
 have HR7:Hush (Three (w6.setCell ⟨w.heap.size + 1 + 1 + 1,2,none⟩ (.slice BL m dL)) (w.heap.size + 1) (.int .i64 0) (.slice none 0 0) (.slice none 0 0)):=⟨HS2.out.r.keep (Below.heap_setCell w6 _ _ _ (by show _ ≠ _ + 1 + 1 + 1;omega))⟩
 have HU7:Hush (RowIs (w6.setCell ⟨w.heap.size + 1 + 1 + 1,2,none⟩ (.slice BL m dL)) (.slice (some ⟨w.heap.size + 1 + 1,0,none⟩) 1 1) [⟨x00,x01,x02,x03,x04⟩]):=⟨HS2.out.p.row 2 _ HS2.out.row⟩
 have HL7:Hush (RowIs (w6.setCell ⟨w.heap.size + 1 + 1 + 1,2,none⟩ (.slice BL m dL)) (.slice BL m dL) (over (F (lv + 1)) (loL [⟨x00,x01,x02,x03,x04⟩]) (hiL [⟨x00,x01,x02,x03,x04⟩]))):=⟨HS2.out.p.row 2 _ HVL.out⟩
 have HB7:Hush (RowKit.Below w.heap.size w (w6.setCell ⟨w.heap.size + 1 + 1 + 1,2,none⟩ (.slice BL m dL))):=⟨HS2.out.below.setCell (p:=⟨w.heap.size + 1 + 1 + 1,2,none⟩) (by show _ ≤ _ + 1 + 1 + 1;omega) _⟩
 have c70:=HP7.out.cells.1
 have c71:=HP7.out.cells.2.1
 have c72:=HP7.out.cells.2.2.1
 have r70:=HR7.out.cells.1
 have r71:=HR7.out.cells.2.1
 have r72:=HR7.out.cells.2.2.1
 have rz0:=HR7.out.cells.2.2.2 0
 have rz1:=HR7.out.cells.2.2.2 1
 have rz2:=HR7.out.cells.2.2.2 2
 go_wp2_with fail
 generalize hw9:((((w6.setCell ⟨w.heap.size + 1 + 1 + 1,2,none⟩ (.slice BL m dL)).setCell ⟨w.heap.size + 1,0,none⟩ (.int .i64 (lv:Int))).setCell ⟨w.heap.size + 1,1,none⟩ (.slice (some ⟨w.heap.size + 1 + 1,0,none⟩) 1 1)).setCell ⟨w.heap.size + 1,2,none⟩ (.slice BL m dL)) = w9
 have HF:=HR7.out.put lv _ BL 1 m 1 dL w9 hw9.symm
 clear hw9 c70 c71 c72 r70 r71 r72 rz0 rz1 rz2
 obtain ⟨f0,f1,f2,_⟩:=HF.1.cells
 refine (?_:bodyPost Tryd.prog Tryd.f40 (PkPost w lv F ⟨x00,x01,x02,x03,x04⟩) .ret _ _)
 exact bodyPost_ret (v:=.tuple #[.agg #[.int .i64 lv,.slice (some ⟨w.heap.size + 1 + 1,0,none⟩) 1 1,.slice BL m dL],.bool true]) (by simp [results,Tryd.results40,go_sem,f0,f1,f2]) rfl ⟨[⟨x00,x01,x02,x03,x04⟩],_,_,by unfold PickUp;rw [if_neg (by omega)],rfl,HF.2.1 _ _ HU7.out,HF.2.1 _ _ HL7.out,HF.2.2 _ _ (by omega) HB7.out⟩
end Go.Proofs.YteilnbnnhocciaaDoor.V

/-! V50 -/
namespace Go.Proofs.YteilnbnnhocciaaDoor.V
open Go.Proofs Go.Sort Go.Lib Go.RowKit Go.BigFrame Go.Proofs.YteilnbnnhocciaaDoorM Go.Proofs.YteilnbnnhocciaaDoorW.PrintWords Go.Proofs.YteilnbnnhocciaaDoorW.PrintLast Go.Proofs.YteilnbnnhocciaaDoorW.PrintMore Go.Proofs.YteilnbnnhocciaaDoor.KV
def sliceLen:Option Value → Nat
 | some (.slice _ n _)=>n
 | _=>0
def PkJ (w:World) (lv:Nat) (F:Nat → List FileV) (A:Nat → Option Addr) (c:Nat → Nat) (x0:FileV) (choice:Int) (a':Act) (W:World):Prop:=
 ∃ (up:List FileV) (v s8 u12 u13 u14 u15 u16 u17 u18 u19 u20 u21 u22 u23 u24 u25 u26 u27 u28 u29 u30 u31 u32 u33 u34 u35 u36 u37 u38 u39 u40 u41 u42 u43 u44 u45 u46 u47 u48 u49 u50 u51 u52 u53 u54 u55 u56 u57 u58 u59 u60 u61 u62 u63 u64 u65 u66 u67 u68 u69 u70 u71 u72 u73 u74 u75 u76:Value),
  a' = { tmps:=#[.agg #[.slice (A 0) (F 0).length (c 0),.slice (A 1) (F 1).length (c 1),.slice (A 2) (F 2).length (c 2),.slice (A 3) (F 3).length (c 3)],.int .i64 lv,.int .i64 choice,.pointer (some ⟨w.heap.size,0,none⟩),undef,undef,.pointer (some ⟨w.heap.size + 1,0,none⟩),.bool false,s8,.pointer (some ⟨w.heap.size + 1 + 1 + 1,0,none⟩),.string (loL up),.string (hiL up),u12,u13,u14,u15,u16,u17,u18,u19,u20,u21,u22,u23,u24,u25,u26,u27,u28,u29,u30,u31,u32,u33,u34,u35,u36,u37,u38,u39,u40,u41,u42,u43,u44,u45,u46,u47,u48,u49,u50,u51,u52,u53,u54,u55,u56,u57,u58,u59,u60,u61,u62,u63,u64,u65,u66,u67,u68,u69,u70,u71,u72,u73,u74,u75,u76],defers:=[] } ∧ Hush (PkSt w lv F A c up v W) ∧ Hush (Way (F 0) x0 up)
set_option maxHeartbeats 8000000 in
set_option maxRecDepth 100000 in
theorem pick_top (lv:Nat) (hlv:lv = 0) (F:Nat → List FileV) (A:Nat → Option Addr) (c:Nat → Nat) (choice:Int) (x0:FileV) (w:World) (h:VerIn w F A c) (hl:∀ i,(F i).length ≤ 100000) (hlm:∀ f ∈ F 0,leB f.least f.most = true) (h0:F lv ≠ []) (hx0:(F lv)[placeOf choice (F lv).length]? = some x0) :
  Calls Tryd.prog 40 #[.agg #[.slice (A 0) (F 0).length (c 0),.slice (A 1) (F 1).length (c 1),.slice (A 2) (F 2).length (c 2),.slice (A 3) (F 3).length (c 3)],.int .i64 lv,.int .i64 choice] w (PkPost w lv F x0):=by
 have hlv3:lv < 3:=by omega
 have HZ:=Hush.mk hlv
 have HLM:=Hush.mk hlm
 have HWAY:Hush (Way (F 0) x0 [x0]):=⟨Way.one hlm (by rw [hlv] at hx0;exact List.mem_of_getElem? hx0)⟩
 obtain ⟨w1,hw1⟩:∃ w1,w1 = (w.alloc (.cells #[.slice (A 0) (F 0).length (c 0),.slice (A 1) (F 1).length (c 1),.slice (A 2) (F 2).length (c 2),.slice (A 3) (F 3).length (c 3)] 79)).alloc (.cells #[.int .i64 0,.slice none 0 0,.slice none 0 0] 87):=⟨_,rfl⟩
 have f0:Four (w.alloc (.cells #[.slice (A 0) (F 0).length (c 0),.slice (A 1) (F 1).length (c 1),.slice (A 2) (F 2).length (c 2),.slice (A 3) (F 3).length (c 3)] 79)) w.heap.size (fun i=>.slice (A i) (F i).length (c i)):=⟨79,World.alloc_heap_new w _⟩
 have f1:=f0.below ((RowKit.Below.refl _ _).alloc (Nat.le_refl _) (.cells #[.int .i64 0,.slice none 0 0,.slice none 0 0] 87))
 have b0:RowKit.Below w.heap.size w (w.alloc (.cells #[.slice (A 0) (F 0).length (c 0),.slice (A 1) (F 1).length (c 1),.slice (A 2) (F 2).length (c 2),.slice (A 3) (F 3).length (c 3)] 79)):=(RowKit.Below.refl _ _).alloc (Nat.le_refl _) _
 have b1:=b0.alloc b0.size (.cells #[.int .i64 0,.slice none 0 0,.slice none 0 0] 87)
 obtain ⟨L,hL⟩:∃ L,L = F lv:=⟨_,rfl⟩
 have hfv:=f1.cell lv (by omega)
 have hrow:=(h lv (by omega)).1.below b1
 rw [← hL] at hx0 h0 hrow hfv
 have hpos:0 < L.length:=List.length_pos_iff.2 h0
 obtain ⟨ad,hAd,hat⟩:=hrow hpos
 obtain ⟨i,hi⟩:∃ i,i = placeOf choice L.length:=⟨_,rfl⟩
 rw [← hi] at hx0
 have hin:i < L.length:=(List.getElem?_eq_some_iff.1 hx0).1
 have hx:=hat i x0 hx0
 rw [hAd] at hfv
 obtain ⟨n,hn⟩:∃ n,n = L.length:=⟨_,rfl⟩
 rw [← hn] at hfv hpos hin hi
 have hrem:IntKind.u64.wrap choice % (n:Int) = (i:Int):=by
  rw [hi]
  unfold placeOf
  have h1:0 ≤ IntKind.u64.wrap choice % (n:Int):=Int.emod_nonneg _ (by omega)
  omega
 have hnn:0 ≤ IntKind.u64.wrap choice:=by
  simp only [IntKind.wrap]
  exact Int.emod_nonneg _ (by decide)
 have hwn:IntKind.u64.wrap (n:Int) = (n:Int):=by
  have:=hl lv
  rw [← hL,← hn] at this
  have e:IntKind.u64.wrap (n:Int) = (n:Int) % 18446744073709551616:=rfl
  rw [e]
  omega
 obtain ⟨x00,x01,x02,x03,x04⟩:=x0
 simp only [FileAt] at hx
 obtain ⟨y0,y1,y2,y3,y4⟩:=hx
 have jw:IntKind.u64.wrap (n:Int) = (n:Int):=hwn
 have jt:(IntKind.u64.wrap choice).tmod (n:Int) = (i:Int):=by
  rw [← hrem,Int.tmod_eq_emod_of_nonneg hnn]
 have j0:(0:Int) ≤ (lv:Int):=by omega
 have j1:(lv:Int) < 4:=by omega
 have j2:(lv:Int) < 3:=by omega
 have j3:¬ (0:Int) < (lv:Int):=by omega
 have j3d:decide ((0:Int) < (lv:Int)) = false:=by simpa using (by omega:¬ (0:Int) < (lv:Int))
 have j4:¬ (lv:Int) < 0:=by omega
 have j5:decide ((lv:Int) < 0) = false:=decide_eq_false (by omega)
 have j6:decide (3 ≤ (lv:Int)) = false:=by simpa using (by omega:¬ 3 ≤ (lv:Int))
 have j7:((n:Int) == 0) = false:=by simpa using (by omega:¬ n = 0)
 have j8:(i:Int) < (n:Int):=by omega
 have j9:(0:Int) ≤ (i:Int):=by omega
 have j10:¬ (n:Int) = 0:=by omega
 have HV:=Hush.mk h
 have HLL:=Hush.mk hl
 clear f0 b0 b1 hat hL hAd hi hn h hl hlm hlv hlv3
 go_enter Tryd.func40,Tryd.ntmps40
 go_wp2
 refine wp_scope_first 1 (PkJ w lv F A c ⟨x00,x01,x02,x03,x04⟩ choice) (fun _ W=>(F 0).length - sliceLen (W.cell? ⟨w.heap.size + 1 + 1 + 1,1,none⟩)) rfl ?pass ?first
 case first=>
  intro hq
  go_wp2_with fail
  generalize hw4:(((w.alloc (.cells #[.slice (A 0) (F 0).length (c 0),.slice (A 1) (F 1).length (c 1),.slice (A 2) (F 2).length (c 2),.slice (A 3) (F 3).length (c 3)] 79)).alloc (.cells #[.int .i64 0,.slice none 0 0,.slice none 0 0] 87)).alloc (.cells #[.int .u64 x00,.int .u64 x01,.int .u64 x02,.string x03,.string x04] 97)).alloc (.cells #[.int .i64 (lv:Int),.slice (some ⟨w.heap.size + 1 + 1,0,none⟩) 1 1,.slice none 0 0] 87) = w4
  have HS0:Hush (PkSt w lv F A c [⟨x00,x01,x02,x03,x04⟩] (.slice (some ⟨w.heap.size + 1 + 1,0,none⟩) 1 1) w4):=⟨pick_start w lv F A c ⟨x00,x01,x02,x03,x04⟩ HV.out w4 hw4.symm⟩
  clear hw4 y0 y1 y2 y3 y4 hfv hrow f1 hx0 hrem hnn hwn jt
  have HONE:Hush (FilesAt w4 (some ⟨w.heap.size + 1 + 1,0,none⟩) [⟨x00,x01,x02,x03,x04⟩]):=by
   obtain ⟨A',c',e,hf,_⟩:=HS0.out.row
   cases e
   exact ⟨hf⟩
  refine (bounds_on _ [⟨x00,x01,x02,x03,x04⟩] 1 _ HONE.out (by simp) (by simp)).mono ?_
  rintro e w5 ⟨rfl,hb5⟩
  have HS1:=Hush.mk (HS0.out.step hb5)
  have HB5:=Hush.mk hb5
  clear hb5
  go_wp2_with fail
  go_step3
  refine (by assumption:∀ a w,Code.wp _ _ _ a w → _) _ _ (hq.out _ _ ?_)
  exact ⟨[⟨x00,x01,x02,x03,x04⟩],_,_,_,_,_,_,_,_,_,_,_,_,_,_,_,_,_,_,_,_,_,_,_,_,_,_,_,_,_,_,_,_,_,_,_,_,_,_,_,_,_,_,_,_,_,_,_,_,_,_,_,_,_,_,_,_,_,_,_,_,_,_,_,_,_,_,_,rfl,HS1,HWAY⟩
 case pass=>
  rintro a' W ⟨up,v,s8,u12,u13,u14,u15,u16,u17,u18,u19,u20,u21,u22,u23,u24,u25,u26,u27,u28,u29,u30,u31,u32,u33,u34,u35,u36,u37,u38,u39,u40,u41,u42,u43,u44,u45,u46,u47,u48,u49,u50,u51,u52,u53,u54,u55,u56,u57,u58,u59,u60,u61,u62,u63,u64,u65,u66,u67,u68,u69,u70,u71,u72,u73,u74,u75,u76,rfl,HS1,HW⟩
  clear HWAY y0 y1 y2 y3 y4 hfv hrow f1 hx0 hrem hnn hwn jt
  obtain ⟨BU,dU,eU,hBU1,hBU2⟩:=HS1.out.row
  obtain ⟨k,hk⟩:∃ k,k = up.length:=⟨_,rfl⟩
  rw [← hk] at eU
  subst eU
  have HK:=Hush.mk hk
  clear hk hBU1 hBU2
  have g0:=HS1.out.vbox.cell 0 (by omega)
  have g1:=HS1.out.vbox.cell 1 (by omega)
  have g2:=HS1.out.vbox.cell 2 (by omega)
  have g3:=HS1.out.vbox.cell 3 (by omega)
  go_wp2_with fail
  have hov:=overlap_on 0 (by omega) (loL up) (hiL up) F A c W HS1.out.ver (HLL.out _)
  rw [show ((0:Nat):Int) = 0 from rfl] at hov
  refine hov.mono ?_
  clear hov g0 g1 g2 g3
  rintro e w6 ⟨⟨vm,rfl,hvm⟩,hb6⟩
  have HS2:=Hush.mk (HS1.out.step hb6)
  clear hb6
  have HVM:=Hush.mk hvm
  obtain ⟨BM,dM,eM,hM1,hM2⟩:=hvm
  obtain ⟨q,hq⟩:∃ q,q = (over (F 0) (loL up) (hiL up)).length:=⟨_,rfl⟩
  rw [← hq] at eM
  have HQ:=Hush.mk hq
  have HM1:=Hush.mk hM1
  clear hq hM1 hM2
  subst eM
  have q2:=HS2.out.p.cells
  have p61:w6.cell? ⟨w.heap.size + 1 + 1 + 1,1,none⟩ = some (.slice BU k dU):=q2.2.1
  have z61:w6.frozen? ⟨w.heap.size + 1 + 1 + 1,1,none⟩ = false:=q2.2.2.2 1
  clear q2
  by_cases hgt:k < q
  ·have hgtz:(k:Int) < (q:Int):=by omega
   have hgtd:decide ((k:Int) < (q:Int)) = true:=by simpa using hgtz
   have HS3:Hush (PkSt w lv F A c (over (F 0) (loL up) (hiL up)) (.slice BM q dM) (w6.setCell ⟨w.heap.size + 1 + 1 + 1,1,none⟩ (.slice BM q dM))):=⟨HS2.out.up HVM.out⟩
   have HW2:Hush (Way (F 0) ⟨x00,x01,x02,x03,x04⟩ (over (F 0) (loL up) (hiL up))):=⟨HW.out.next HLM.out⟩
   go_wp2_with fail
   have hbo:=bounds_on BM (over (F 0) (loL up) (hiL up)) dM (w6.setCell ⟨w.heap.size + 1 + 1 + 1,1,none⟩ (.slice BM q dM)) (by obtain ⟨B',d',e',hf',_⟩:=HS3.out.row;cases e';exact hf') HW2.out.ne (Nat.le_trans (List.length_filter_le _ _) (HLL.out 0))
   rw [← HQ.out] at hbo
   refine hbo.mono ?_
   clear hbo p61 z61
   rintro e w8 ⟨rfl,hb8⟩
   have HS4:=Hush.mk (HS3.out.step hb8)
   clear hb8
   have HME:Hush ((F 0).length - sliceLen (w8.cell? ⟨w.heap.size + 1 + 1 + 1,1,none⟩) < (F 0).length - sliceLen (W.cell? ⟨w.heap.size + 1 + 1 + 1,1,none⟩)):=⟨by
    rw [HS4.out.p.cells.2.1,HS1.out.p.cells.2.1]
    have h1:q ≤ (F 0).length:=by rw [HQ.out];exact List.length_filter_le _ _
    show _ - q < _ - k
    omega⟩
   go_wp2_with fail
   refine wp_goto ?_
   refine ⟨rfl,⟨over (F 0) (loL up) (hiL up),_,_,_,_,_,_,_,_,_,_,_,_,_,_,_,_,_,_,_,_,_,_,_,_,_,_,_,_,_,_,_,_,_,_,_,_,_,_,_,_,_,_,_,_,_,_,_,_,_,_,_,_,_,_,_,_,_,_,_,_,_,_,_,_,_,_,_,rfl,HS4,HW2⟩,HME.out⟩
  ·have hgtz:¬ (k:Int) < (q:Int):=by omega
   have hgtd:decide ((k:Int) < (q:Int)) = false:=by simpa using hgtz
   have HEND:Hush (PickUp lv (F lv) ⟨x00,x01,x02,x03,x04⟩ up):=⟨by
    have:=HW.out
    have:=this.stop (by rw [← HQ.out,← HK.out];exact hgt)
    unfold PickUp
    rw [if_pos HZ.out,HZ.out]
    exact ⟨this,HW.out.part⟩⟩
   go_wp2_with fail
   go_step3
   clear p61 z61 HVM HM1
   have g0:=HS2.out.vbox.cell 0 (by omega)
   have g1:=HS2.out.vbox.cell 1 (by omega)
   have g2:=HS2.out.vbox.cell 2 (by omega)
   have g3:=HS2.out.vbox.cell 3 (by omega)
   go_wp2_with fail
   have hov:=overlap_on (lv + 1) (by omega) (loL up) (hiL up) F A c w6 HS2.out.ver (HLL.out _)
   rw [show ((lv + 1:Nat):Int) = (lv:Int) + 1 by omega] at hov
   refine hov.mono ?_
   clear hov g0 g1 g2 g3
   rintro e w8 ⟨⟨vL,rfl,hvL⟩,hb6⟩
   have HS8:=Hush.mk (HS2.out.step hb6)
   clear hb6
   have HVL:=Hush.mk hvL
   obtain ⟨BL,dL,eL,hL1,hL2⟩:=hvL
   obtain ⟨m,hm⟩:∃ m,m = (over (F (lv + 1)) (loL up) (hiL up)).length:=⟨_,rfl⟩
   rw [← hm] at eL
   clear hm hL1 hL2
   subst eL
   have q2:=HS8.out.p.cells
   have p6:w8.cell? ⟨w.heap.size + 1 + 1 + 1,2,none⟩ = some (.slice none 0 0):=q2.2.2.1
   have z6:w8.frozen? ⟨w.heap.size + 1 + 1 + 1,2,none⟩ = false:=q2.2.2.2 2
   clear q2
   have HP7:Hush (Three (w8.setCell ⟨w.heap.size + 1 + 1 + 1,2,none⟩ (.slice BL m dL)) (w.heap.size + 1 + 1 + 1) (.int .i64 lv) (.slice BU k dU) (.slice BL m dL)):=⟨HS8.out.p.set2 _⟩
   have HR7:Hush (Three (w8.setCell ⟨w.heap.size + 1 + 1 + 1,2,none⟩ (.slice BL m dL)) (w.heap.size + 1) (.int .i64 0) (.slice none 0 0) (.slice none 0 0)):=⟨HS8.out.r.keep (Below.heap_setCell w8 _ _ _ (by show _ ≠ _ + 1 + 1 + 1;omega))⟩
   have HU7:Hush (RowIs (w8.setCell ⟨w.heap.size + 1 + 1 + 1,2,none⟩ (.slice BL m dL)) (.slice BU k dU) up):=⟨HS8.out.p.row 2 _ HS8.out.row⟩
   have HL7:Hush (RowIs (w8.setCell ⟨w.heap.size + 1 + 1 + 1,2,none⟩ (.slice BL m dL)) (.slice BL m dL) (over (F (lv + 1)) (loL up) (hiL up))):=⟨HS8.out.p.row 2 _ HVL.out⟩
   have HB7:Hush (RowKit.Below w.heap.size w (w8.setCell ⟨w.heap.size + 1 + 1 + 1,2,none⟩ (.slice BL m dL))):=⟨HS8.out.below.setCell (p:=⟨w.heap.size + 1 + 1 + 1,2,none⟩) (by show _ ≤ _ + 1 + 1 + 1;omega) _⟩
   have c70:=HP7.out.cells.1
   have c71:=HP7.out.cells.2.1
   have c72:=HP7.out.cells.2.2.1
   have r70:=HR7.out.cells.1
   have r71:=HR7.out.cells.2.1
   have r72:=HR7.out.cells.2.2.1
   have rz0:=HR7.out.cells.2.2.2 0
   have rz1:=HR7.out.cells.2.2.2 1
   have rz2:=HR7.out.cells.2.2.2 2
   go_wp2_with fail
   generalize hw9:((((w8.setCell ⟨w.heap.size + 1 + 1 + 1,2,none⟩ (.slice BL m dL)).setCell ⟨w.heap.size + 1,0,none⟩ (.int .i64 (lv:Int))).setCell ⟨w.heap.size + 1,1,none⟩ (.slice BU k dU)).setCell ⟨w.heap.size + 1,2,none⟩ (.slice BL m dL)) = w9
   have HF:=HR7.out.put lv _ BL k m dU dL w9 hw9.symm
   clear hw9 c70 c71 c72 r70 r71 r72 rz0 rz1 rz2
   obtain ⟨f0,f1,f2,_⟩:=HF.1.cells
   refine (?_:bodyPost Tryd.prog Tryd.f40 (PkPost w lv F ⟨x00,x01,x02,x03,x04⟩) .ret _ _)
   exact bodyPost_ret (v:=.tuple #[.agg #[.int .i64 lv,.slice BU k dU,.slice BL m dL],.bool true]) (by simp [results,Tryd.results40,go_sem,f0,f1,f2]) rfl ⟨up,_,_,HEND.out,rfl,HF.2.1 _ _ HU7.out,HF.2.1 _ _ HL7.out,HF.2.2 _ _ (by omega) HB7.out⟩
end Go.Proofs.YteilnbnnhocciaaDoor.V

/-! V54 -/
namespace Go.Proofs.YteilnbnnhocciaaDoor.V
open Go.Proofs Go.Sort Go.Lib Go.RowKit Go.BigFrame Go.Proofs.YteilnbnnhocciaaDoorM Go.Proofs.YteilnbnnhocciaaDoorW.PrintWords Go.Proofs.YteilnbnnhocciaaDoorW.PrintLast Go.Proofs.YteilnbnnhocciaaDoorW.PrintMore Go.Proofs.YteilnbnnhocciaaDoor.KV
theorem okB_le {lv:Int} {f:FileV} (h:okB lv f = true):leB f.least f.most = true:=by
 simp only [okB,decide_eq_true_eq] at h
 unfold edit_wrong.val at h
 unfold leB
 repeat (split at h <;> first | (cases h;done) | skip)
 all_goals simp_all
theorem pickUp_one {lv:Nat} {L U up:List FileV} {x0:FileV} (hn:(nums L).Nodup) (h0:x0 ∈ L) (hU:PickUp lv L x0 U) (hu:PickUp lv L x0 up):up = U:=by
 unfold PickUp at hU hu
 split at hU
 ·next hz=>
  rw [if_pos hz] at hu
  have h1:=(shut_same hn h0 hU.1 hu.1 hU.2).1
  rw [filter_nums hu.2 hn] at h1
  exact h1
 ·next hz=>
  rw [if_neg hz] at hu
  rw [hu,hU]
theorem pickUp_there {lv:Nat} {L:List FileV} {x0:FileV} (hl:∀ f ∈ L,leB f.least f.most = true) (h0:x0 ∈ L):∃ U,PickUp lv L x0 U ∧ U.Sublist L:=by
 by_cases hz:lv = 0
 ·obtain ⟨h1,h2⟩:=growC_shut hl L.length [x0] (Way.one hl h0) (by omega)
  exact ⟨growC L L.length [x0],by unfold PickUp;rw [if_pos hz];exact ⟨h1,h2.part⟩,h2.part⟩
 ·exact ⟨[x0],by unfold PickUp;rw [if_neg hz],List.singleton_sublist.2 h0⟩
end Go.Proofs.YteilnbnnhocciaaDoor.V

/-! V56 -/
namespace Go.Proofs.YteilnbnnhocciaaDoor.V
open Go.ChangeShapes Go.WideShapes Go.ChangeAt Go.RowKit Go.Lib Go.Shelf
open Go.ChangeMaps (open_string shut_string)
open Go.Proofs.YteilnbnnhocciaaDoorM Go.Proofs.YteilnbnnhocciaaDoorW.PrintWords Go.Proofs.YteilnbnnhocciaaDoor.KV
section
attribute [local irreducible] Opens OpensF
set_option maxRecDepth 10000
theorem opens107:Opens Tryd.prog 107 k107 (fun x=>(Lit.int .u64 x.f1.f0).wf = true):=by
 unfold k107
 refine (Opens.iso (opens_struct Tryd.underlying107 (by kernel_rfl) (opensF_cons (opens_int Tryd.underlying3) rfl (by kernel_rfl) (opensF_one opens97 rfl (by kernel_rfl)))) _ (fun a=>⟨a.1,a.2⟩) (fun _=>rfl)).good ?_
 rintro x ⟨_,h1,_⟩
 exact h1
theorem opens111:Opens Tryd.prog 111 k111 (fun _=>True):=by
 unfold k111
 refine (Opens.iso (opens_struct Tryd.underlying111 (by kernel_rfl) (opensF_cons (opens_int Tryd.underlying3) rfl (by kernel_rfl) (opensF_one (opens_int Tryd.underlying22) rfl (by kernel_rfl)))) _ (fun a=>⟨a.1,a.2⟩) (fun _=>rfl)).good ?_
 rintro x _
 trivial
theorem opens26:Opens Tryd.prog 26 k26 (fun x=>∀ a ∈ x.f3,(Lit.int .u64 a.f1.f0).wf = true):=by
 unfold k26
 refine (Opens.iso (opens_struct Tryd.underlying26 (by kernel_rfl) (opensF_cons (opens_int Tryd.underlying22) rfl (by kernel_rfl) (opensF_cons (opens_int Tryd.underlying22) rfl (by kernel_rfl) (opensF_cons (opens_int Tryd.underlying22) rfl (by kernel_rfl)
  (opensF_cons (opens_slice Tryd.underlying23 (by kernel_rfl) opens107) rfl (by kernel_rfl) (opensF_one (opens_slice Tryd.underlying24 (by kernel_rfl) opens111) rfl (by kernel_rfl))))))) _ (fun a=>⟨a.1,a.2.1,a.2.2.1,a.2.2.2.1,a.2.2.2.2⟩) (fun _=>rfl)).good ?_
 rintro x ⟨_,_,_,h1,_⟩
 exact h1
theorem opens74:Opens Tryd.prog 74 (Kd.slice 26 k26) (fun l=>∀ e ∈ l,∀ a ∈ e.f3,(Lit.int .u64 a.f1.f0).wf = true):=opens_slice Tryd.underlying74 (by kernel_rfl) opens26
end
set_option maxRecDepth 100000 in
theorem open74 {H:Type} {enc:TypeId × Value → H} {W:World} {base base':Nat} {sp:Nat → Bool} {held:Bool} {v:Value} {d:DataW H} {p:List MemPlace}
  (hv:Value.okWide Tryd.prog W .any base 74 v) (h:DataW.Trod enc Tryd.prog W base' sp held 74 v d p) :
  ∃ (A:Option Addr) (l:List S26) (c:Nat),v = .slice A l.length c ∧ Kd.C k26 W A l.length l ∧ l.length ≤ c ∧ (∀ e ∈ l,e.f3.length ≤ 9223372036854775807) ∧ ∀ e ∈ l,∀ a ∈ e.f3,(Lit.int .u64 a.f1.f0).wf = true:=by
 obtain ⟨m,hm⟩:=h
 obtain ⟨l,hK,hG⟩:=opens74 enc W base' sp held m _ _ hm
 obtain ⟨A,c,hcs,hl,hC⟩:=hK
 obtain ⟨A',len',c',rfl⟩:=okWide_slice Tryd.underlying74 hv
 simp [Value.cells] at hcs
 obtain ⟨rfl,rfl,rfl⟩:=hcs
 refine ⟨_,l,c',rfl,hC,hl,fun e he=>?_,hG⟩
 obtain ⟨j,hj,e1⟩:=List.mem_iff_getElem.1 he
 obtain ⟨ad,A3,c3,A4,c4,_,_,_,_,_,_,_,h3,_⟩:=k26_row hC (j:=j) (e:=e) (by rw [List.getElem?_eq_getElem hj,e1])
 exact h3.2.1
end Go.Proofs.YteilnbnnhocciaaDoor.V
namespace Go.Proofs.YteilnbnnhocciaaDoor
end Go.Proofs.YteilnbnnhocciaaDoor

/-! V58 -/
namespace Go.Proofs.YteilnbnnhocciaaDoor.V
open Go.Proofs Go.RowKit Go.Lib Go.Proofs.YteilnbnnhocciaaDoorM Go.Proofs.YteilnbnnhocciaaDoorW.PrintWords Go.Proofs.YteilnbnnhocciaaDoor.KV
def cells107 (x:S107):List Value:=[.int .i64 x.f0,.int .u64 x.f1.f0,.int .u64 x.f1.f1,.int .u64 x.f1.f2,.string x.f1.f3,.string x.f1.f4]
theorem cells107_len (x:S107):(cells107 x).length = 6:=rfl
theorem levelCells_come (lv:Nat):∀ L:List FileV,levelCells lv L = (levelCome lv L).flatMap cells107
 | []=>rfl
 | f :: r=>by
  have ih:=levelCells_come lv r
  unfold levelCells levelCome at ih ⊢
  rw [List.flatMap_cons,List.map_cons,List.flatMap_cons,ih]
  rfl
theorem allCells_come (F:Nat → List FileV):allCells F 4 = (allCome F).flatMap cells107:=by
 unfold allCome
 simp only [allCells,List.nil_append,List.flatMap_append,levelCells_come]
theorem allLen_come (F:Nat → List FileV):allLen F 4 = (allCome F).length:=by
 simp [allLen,allCome,levelCome]
 omega
theorem flat6_at:∀ (c:List S107) (i:Nat) (x:S107) (j:Nat) (u:Value),c[i]? = some x → (cells107 x)[j]? = some u → (c.flatMap cells107)[i * 6 + j]? = some u
 | y :: r,0,x,j,u,hx,hu=>by
  obtain rfl:=Option.some.inj hx
  have hj:=(List.getElem?_eq_some_iff.1 hu).1
  rw [List.flatMap_cons,Nat.zero_mul,Nat.zero_add,List.getElem?_append_left hj]
  exact hu
 | y :: r,i + 1,x,j,u,hx,hu=>by
  rw [List.flatMap_cons,List.getElem?_append_right (by rw [cells107_len];omega),cells107_len,show (i + 1) * 6 + j - 6 = i * 6 + j by omega]
  exact flat6_at r i x j u hx hu
theorem own107_C {W:World} {base:Nat} {v:Value} {c:List S107} (h:W.ownsRow base 107 6 v c.length (c.flatMap cells107)) (hl:c.length ≤ 9223372036854775807):∃ A cap,v = .slice A c.length cap ∧ Kd.C k107 W A c.length c ∧ c.length ≤ cap:=by
 have h0:=h
 rcases h.2 with ⟨rfl,hn⟩ | ⟨g,cap,cur,rfl,hb,hg,hle,hm,hs,ht⟩
 ·exact ⟨none,0,by rw [hn],⟨rfl,hl,fun h1=>by omega⟩,by omega⟩
 ·refine ⟨_,cap,rfl,⟨rfl,hl,fun _=>⟨_,rfl,fun j p hj=>⟨cells107 p,rfl,k107_mk W p,fun i u hu=>?_⟩⟩⟩,hle⟩
  have hj':j < c.length:=(List.getElem?_eq_some_iff.1 hj).1
  have hi:=(List.getElem?_eq_some_iff.1 hu).1
  rw [cells107_len] at hi
  refine (congrArg W.cell? (add_plain g (j * 6 + i))).trans ?_
  rw [h0.cellAt (j * 6 + i) (by omega)]
  exact flat6_at c j p i u hj hu
theorem again_any {F:Nat → List FileV} (hF:rightF F = true):((applyR (allCome F) [] noneF).2 = 0 ∧ ∀ i,i < 4 → (applyR (allCome F) [] noneF).1 i = F i) ∨ (200 < (allCome F).length ∧ (applyR (allCome F) [] noneF).2 ≠ 0):=by
 by_cases h:(allCome F).length ≤ 200
 ·exact .inl (whole_again hF h)
 ·refine .inr ⟨by omega,?_⟩
  have e:edit_Edit_Check.val (allCome F) [] = 6:=by
   unfold edit_Edit_Check.val
   rw [if_pos (.inl (by omega))]
  unfold applyR
  rw [if_neg (by rw [e];decide)]
  show edit_Edit_Check.val (allCome F) [] ≠ 0
  rw [e]
  decide
end Go.Proofs.YteilnbnnhocciaaDoor.V

/-! V59 -/
namespace Go.Proofs.YteilnbnnhocciaaDoor.V
open Go.Proofs Go.RowKit Go.Lib Go.Proofs.YteilnbnnhocciaaDoorM Go.Proofs.YteilnbnnhocciaaDoorW.PrintWords Go.Proofs.YteilnbnnhocciaaDoor.KV
theorem allFiles_on (F:Nat → List FileV) (A:Nat → Option Addr) (c:Nat → Nat) (w:World) (h:VerIn w F A c) (hl:∀ i,(F i).length ≤ 100000) :
  Calls Tryd.prog 46 #[.agg #[.slice (A 0) (F 0).length (c 0),.slice (A 1) (F 1).length (c 1),.slice (A 2) (F 2).length (c 2),.slice (A 3) (F 3).length (c 3)]] w fun e w'=>
   ∃ B d,e = .returned (.agg #[.int .u64 0,.int .u64 0,.int .u64 0,.slice B (allCome F).length d,.slice none 0 0]) ∧ Kd.C k107 w' B (allCome F).length (allCome F) ∧ (allCome F).length ≤ d ∧ RowKit.Below w.heap.size w w':=by
 refine (filesEdit_on F A c w (fun i hi=>⟨(h i hi).1,by have:=hl i;omega⟩)).mono fun e w' ⟨⟨v,h1,h2⟩,h3⟩=>?_
 rw [allLen_come,allCells_come] at h2
 have hlen:(allCome F).length ≤ 9223372036854775807:=by
  have h0:=hl 0
  have h1:=hl 1
  have h2:=hl 2
  have h3:=hl 3
  rw [← allLen_come]
  simp only [allLen]
  omega
 obtain ⟨B,d,rfl,hC,hd⟩:=own107_C h2 hlen
 exact ⟨B,d,h1,hC,hd,h3⟩
theorem allCount_on (F:Nat → List FileV) (A:Nat → Option Addr) (c:Nat → Nat) (w:World) (h:VerIn w F A c) (hl:∀ i,(F i).length ≤ 100000) :
  Calls Tryd.prog 48 #[.agg #[.slice (A 0) (F 0).length (c 0),.slice (A 1) (F 1).length (c 1),.slice (A 2) (F 2).length (c 2),.slice (A 3) (F 3).length (c 3)]] w fun e w'=>e = .returned (.int .i64 ((allCome F).length:Nat)) ∧ RowKit.Below w.heap.size w w':=by
 have:=count_on F A c w (fun i hi=>⟨(h i hi).1,by have:=hl i;omega⟩)
 rw [allLen_come] at this
 exact this
end Go.Proofs.YteilnbnnhocciaaDoor.V

/-! KV1 -/
namespace Go.Proofs.YteilnbnnhocciaaDoor.KV
open Go.RowKit Go.Proofs.YteilnbnnhocciaaDoorW.PrintWords Go.Proofs.YteilnbnnhocciaaDoorW.PrintLast Go.Proofs.YteilnbnnhocciaaDoorW.PrintMore Go.Proofs.YteilnbnnhocciaaDoorM
attribute [local go_sem] max2_int min2_int max_two min_two max_three min_three max_four min_four
theorem eqA97 (d:Nat) (w:World) (x0 y0:Int) (x1 y1:Int) (x2 y2:Int) (x3 y3:ByteArray) (x4 y4:ByteArray) :
  (Op.equalIn (d + 2) 97 (.agg #[.int .u64 x0,.int .u64 x1,.int .u64 x2,.string x3,.string x4]) (.agg #[.int .u64 y0,.int .u64 y1,.int .u64 y2,.string y3,.string y4])).run Tryd.prog w = .ok (x0 == y0 && (x1 == y1 && (x2 == y2 && (x3.toList == y3.toList && (x4.toList == y4.toList))))) w:=by
 refine eqA_of Tryd.underlying97 (by kernel_rfl) ?_
 refine eqf_cons (by rfl) (by go_simp;rfl) (by go_simp;rfl) (by go_simp) ?_
 refine eqf_cons (by rfl) (by go_simp;rfl) (by go_simp;rfl) (by go_simp) ?_
 refine eqf_cons (by rfl) (by go_simp;rfl) (by go_simp;rfl) (by go_simp) ?_
 refine eqf_cons (by rfl) (by go_simp;rfl) (by go_simp;rfl) (by go_simp) ?_
 exact eqf_last (by rfl) (by go_simp;rfl) (by go_simp;rfl) (by go_simp)
theorem eqA107 (d:Nat) (w:World) (x0 y0:Int) (x1 y1:Int) (x2 y2:Int) (x3 y3:Int) (x4 y4:ByteArray) (x5 y5:ByteArray) :
  (Op.equalIn (d + 3) 107 (.agg #[.int .i64 x0,.int .u64 x1,.int .u64 x2,.int .u64 x3,.string x4,.string x5]) (.agg #[.int .i64 y0,.int .u64 y1,.int .u64 y2,.int .u64 y3,.string y4,.string y5])).run Tryd.prog w = .ok (x0 == y0 && ((x1 == y1 && (x2 == y2 && (x3 == y3 && (x4.toList == y4.toList && (x5.toList == y5.toList))))))) w:=by
 refine eqA_of Tryd.underlying107 (by kernel_rfl) ?_
 refine eqf_cons (by rfl) (by go_simp;rfl) (by go_simp;rfl) (by go_simp) ?_
 exact eqf_last (by rfl) (by go_simp) (by go_simp) (eqA97 (d + 0) w _ _ _ _ _ _ _ _ _ _)
end Go.Proofs.YteilnbnnhocciaaDoor.KV

/-! KV68 -/
namespace Go.Proofs.YteilnbnnhocciaaDoor.KV
open Go.RowKit Go.Proofs.YteilnbnnhocciaaDoorW.PrintWords Go.Proofs.YteilnbnnhocciaaDoorW.PrintLast Go.Proofs.YteilnbnnhocciaaDoorW.PrintMore Go.Proofs.YteilnbnnhocciaaDoorM
attribute [local go_sem] max2_int min2_int max_two min_two max_three min_three max_four min_four
attribute [local go_sem high] eqA107
def edit_At.l0:Nat → List (S107) → List (S107) → Int → Int → Option (Bool)
 | 0,_,_,_,_=>none
 | k + 1,x0,x1,x12,x13=>if x13 < x12 then (if 0 ≤ x13 then (if x13 < (x0.length:Int) then (if x13 < (x1.length:Int) then (if (!(((rd_T107 x0 x13).f0) == ((rd_T107 x1 x13).f0)) || ((!(((rd_T107 x0 x13).f1.f0) == ((rd_T107 x1 x13).f1.f0)) || (!(((rd_T107 x0 x13).f1.f1) == ((rd_T107 x1 x13).f1.f1)) || (!(((rd_T107 x0 x13).f1.f2) == ((rd_T107 x1 x13).f1.f2)) || (!((((rd_T107 x0 x13).f1.f3).toList) == (((rd_T107 x1 x13).f1.f3).toList)) || (!((((rd_T107 x0 x13).f1.f4).toList) == (((rd_T107 x1 x13).f1.f4).toList))))))))) = true then (some false) else (edit_At.l0 k x0 x1 x12 (wrap64 (x13 + 1)))) else (none)) else (none)) else (none)) else (some true)
def edit_At.f (k:Nat) (l0:List (S107)) (l1:List (S107)):Option (Bool):=if (l0.length:Int) = (l1.length:Int) then (edit_At.l0 k l0 l1 (l0.length:Int) 0) else (some false)
set_option maxHeartbeats 8000000 in
set_option maxRecDepth 100000 in
theorem edit_At.calls (k:Nat) (A0:Option Addr) (c0:Nat) (l0:List (S107)) (A1:Option Addr) (c1:Nat) (l1:List (S107)) (r:Bool) (w:World) (hr0:Kd.C k107 w A0 l0.length l0) (hc0:l0.length ≤ c0) (hr1:Kd.C k107 w A1 l1.length l1) (hc1:l1.length ≤ c1) (h:edit_At.f k l0 l1 = some r) :
  Calls Tryd.prog 71 #[.slice A0 l0.length c0,.slice A1 l1.length c1] w fun e w'=>e = .returned (.bool r) ∧ Drawn0 w w':=by
 have hu107:=Tryd.underlying107
 have HR0:=Aside0.mk hr0
 have HC0:=Aside0.mk hc0
 clear hr0 hc0
 have HR1:=Aside0.mk hr1
 have HC1:=Aside0.mk hc1
 clear hr1 hc1
 have H:(if (l0.length:Int) = (l1.length:Int) then (edit_At.l0 k l0 l1 (l0.length:Int) 0) else (some false)) = some r:=h
 clear h
 by_cases c3:(l0.length:Int) = (l1.length:Int)
 ·rw [if_pos c3] at H
  have c3b0:((l0.length:Int) == (l1.length:Int)) = true:=beq_iff_eq.mpr c3
  have c3b1:((l0.length:Int) != (l1.length:Int)) = false:=bne_eq_false_iff_eq.mpr c3
  have c3b2:(l0.length == l1.length) = true:=by first | simpa using c3 | (simp at c3 ⊢;omega)
  clear c3
  have H':=Aside0.mk H
  clear H
  go_enter Tryd.func71,Tryd.ntmps71
  go_wp2
  repeat (go_quiet (fail);try go_wp2)
  go_loopg [13] k (fun kq v13 w'=>∃ (x13_1:Int),v13 = .int .i64 x13_1 ∧ Aside0 (edit_At.l0 kq l0 l1 (l0.length:Int) x13_1 = some r) ∧ Aside0 (kq ≤ k) ∧ Drawn0 w w')
  case atStart=>exact ⟨(0),(by first | rfl | (simp;done) | (simp [*];done)),H',⟨Nat.le_refl _⟩,by repeat (first | exact Drawn0.refl _ | apply Drawn0.step)⟩
  case round=>
   clear H'
   try clear c1
   try clear p2
   try clear c3
   try clear c3b0
   try clear c3b1
   try clear c3b2
   obtain ⟨x13_1,rfl,HA,HK1,⟨m1,rfl⟩⟩:=hrel
   cases gk with
   | zero=>exact absurd HA.out (by simp [edit_At.l0])
   | succ k1=>
    have H:=HA.out
    clear HA
    simp only [edit_At.l0] at H
    by_cases c4:x13_1 < (l0.length:Int)
    ·rw [if_pos c4] at H
     have c4b0:decide (x13_1 < (l0.length:Int)) = true:=decide_eq_true c4
     clear c4
     by_cases c5:0 ≤ x13_1
     ·rw [if_pos c5] at H
      have c5b0:decide (0 ≤ x13_1) = true:=decide_eq_true c5
      clear c5
      by_cases c6:x13_1 < (l0.length:Int)
      ·rw [if_pos c6] at H
       have c6b0:decide (x13_1 < (l0.length:Int)) = true:=decide_eq_true c6
       clear c6
       by_cases c7:x13_1 < (l1.length:Int)
       ·rw [if_pos c7] at H
        have c7b0:decide (x13_1 < (l1.length:Int)) = true:=decide_eq_true c7
        clear c7
        by_cases c8:(!(((rd_T107 l0 x13_1).f0) == ((rd_T107 l1 x13_1).f0)) || ((!(((rd_T107 l0 x13_1).f1.f0) == ((rd_T107 l1 x13_1).f1.f0)) || (!(((rd_T107 l0 x13_1).f1.f1) == ((rd_T107 l1 x13_1).f1.f1)) || (!(((rd_T107 l0 x13_1).f1.f2) == ((rd_T107 l1 x13_1).f1.f2)) || (!((((rd_T107 l0 x13_1).f1.f3).toList) == (((rd_T107 l1 x13_1).f1.f3).toList)) || (!((((rd_T107 l0 x13_1).f1.f4).toList) == (((rd_T107 l1 x13_1).f1.f4).toList))))))))) = true
        ·rw [if_pos c8] at H
         have c8b0:(!(((rd_T107 l0 x13_1).f0) == ((rd_T107 l1 x13_1).f0)) || ((!(((rd_T107 l0 x13_1).f1.f0) == ((rd_T107 l1 x13_1).f1.f0)) || (!(((rd_T107 l0 x13_1).f1.f1) == ((rd_T107 l1 x13_1).f1.f1)) || (!(((rd_T107 l0 x13_1).f1.f2) == ((rd_T107 l1 x13_1).f1.f2)) || (!((((rd_T107 l0 x13_1).f1.f3).toList) == (((rd_T107 l1 x13_1).f1.f3).toList)) || (!((((rd_T107 l0 x13_1).f1.f4).toList) == (((rd_T107 l1 x13_1).f1.f4).toList))))))))) = true:=c8
         clear c8
         obtain rfl:=Option.some.inj H
         have p249:0 ≤ (x13_1:Int):=of_decide_eq_true (by first | (with_reducible assumption) | assumption)
         have q249:x13_1 < (l0.length:Int):=of_decide_eq_true (by first | (with_reducible assumption) | assumption)
         obtain ⟨ad249,e249,hx249_0,hx249_1,hx249_2,hx249_3,hx249_4,hx249_5⟩:=at_T107 HR0.out x13_1 p249 q249
         cases e249
         replace p249:=eq_true p249
         replace q249:=eq_true q249
         have p250:0 ≤ (x13_1:Int):=of_decide_eq_true (by first | (with_reducible assumption) | assumption)
         have q250:x13_1 < (l1.length:Int):=of_decide_eq_true (by first | (with_reducible assumption) | assumption)
         obtain ⟨ad250,e250,hx250_0,hx250_1,hx250_2,hx250_3,hx250_4,hx250_5⟩:=at_T107 HR1.out x13_1 p250 q250
         cases e250
         replace p250:=eq_true p250
         replace q250:=eq_true q250
         go_wp2
         repeat (go_quiet (fail);try go_wp2)
         go_ret
         exact ⟨by first | rfl | (simp;done) | (simp [*];done),by repeat (first | exact Drawn0.refl _ | apply Drawn0.step)⟩
        ·rw [if_neg c8] at H
         have c8b0:(!(((rd_T107 l0 x13_1).f0) == ((rd_T107 l1 x13_1).f0)) || ((!(((rd_T107 l0 x13_1).f1.f0) == ((rd_T107 l1 x13_1).f1.f0)) || (!(((rd_T107 l0 x13_1).f1.f1) == ((rd_T107 l1 x13_1).f1.f1)) || (!(((rd_T107 l0 x13_1).f1.f2) == ((rd_T107 l1 x13_1).f1.f2)) || (!((((rd_T107 l0 x13_1).f1.f3).toList) == (((rd_T107 l1 x13_1).f1.f3).toList)) || (!((((rd_T107 l0 x13_1).f1.f4).toList) == (((rd_T107 l1 x13_1).f1.f4).toList))))))))) = false:=by simpa using c8
         clear c8
         have H':=Aside0.mk H
         clear H
         have p249:0 ≤ (x13_1:Int):=of_decide_eq_true (by first | (with_reducible assumption) | assumption)
         have q249:x13_1 < (l0.length:Int):=of_decide_eq_true (by first | (with_reducible assumption) | assumption)
         obtain ⟨ad249,e249,hx249_0,hx249_1,hx249_2,hx249_3,hx249_4,hx249_5⟩:=at_T107 HR0.out x13_1 p249 q249
         cases e249
         replace p249:=eq_true p249
         replace q249:=eq_true q249
         have p250:0 ≤ (x13_1:Int):=of_decide_eq_true (by first | (with_reducible assumption) | assumption)
         have q250:x13_1 < (l1.length:Int):=of_decide_eq_true (by first | (with_reducible assumption) | assumption)
         obtain ⟨ad250,e250,hx250_0,hx250_1,hx250_2,hx250_3,hx250_4,hx250_5⟩:=at_T107 HR1.out x13_1 p250 q250
         cases e250
         replace p250:=eq_true p250
         replace q250:=eq_true q250
         go_wp2
         repeat (go_quiet (fail);try go_wp2)
         go_roundg k1
         case measure=>have:=HK1.out;omega
         case rel=>exact ⟨(wrap64 (x13_1 + 1)),(by first | rfl | (simp;done) | (simp [*];done)),H',⟨by have:=HK1.out;omega⟩,by repeat (first | exact Drawn0.refl _ | apply Drawn0.step)⟩
       ·rw [if_neg c7] at H
        exact absurd H (by simp)
      ·rw [if_neg c6] at H
       exact absurd H (by simp)
     ·rw [if_neg c5] at H
      exact absurd H (by simp)
    ·rw [if_neg c4] at H
     have c4b0:decide (x13_1 < (l0.length:Int)) = false:=decide_eq_false c4
     clear c4
     obtain rfl:=Option.some.inj H
     go_wp2
     repeat (go_quiet (fail);try go_wp2)
     go_ret
     exact ⟨by first | rfl | (simp;done) | (simp [*];done),by repeat (first | exact Drawn0.refl _ | apply Drawn0.step)⟩
 ·rw [if_neg c3] at H
  have c3b0:((l0.length:Int) == (l1.length:Int)) = false:=beq_eq_false_iff_ne.mpr c3
  have c3b1:((l0.length:Int) != (l1.length:Int)) = true:=bne_iff_ne.mpr c3
  have c3b2:(l0.length == l1.length) = false:=by first | simpa using c3 | (simp at c3 ⊢;omega)
  obtain rfl:=Option.some.inj H
  go_enter Tryd.func71,Tryd.ntmps71
  go_wp2
  repeat (go_quiet (fail);try go_wp2)
  go_ret
  exact ⟨by first | rfl | (simp;done) | (simp [*];done),by repeat (first | exact Drawn0.refl _ | apply Drawn0.step)⟩
end Go.Proofs.YteilnbnnhocciaaDoor.KV

/-! KV2 -/
namespace Go.Proofs.YteilnbnnhocciaaDoor.KV
open Go.RowKit Go.Proofs.YteilnbnnhocciaaDoorW.PrintWords Go.Proofs.YteilnbnnhocciaaDoorW.PrintLast Go.Proofs.YteilnbnnhocciaaDoorW.PrintMore Go.Proofs.YteilnbnnhocciaaDoorM
attribute [local go_sem] max2_int min2_int max_two min_two max_three min_three max_four min_four
theorem eqA111 (d:Nat) (w:World) (x0 y0:Int) (x1 y1:Int) :
  (Op.equalIn (d + 2) 111 (.agg #[.int .i64 x0,.int .u64 x1]) (.agg #[.int .i64 y0,.int .u64 y1])).run Tryd.prog w = .ok (x0 == y0 && (x1 == y1)) w:=by
 refine eqA_of Tryd.underlying111 (by kernel_rfl) ?_
 refine eqf_cons (by rfl) (by go_simp;rfl) (by go_simp;rfl) (by go_simp) ?_
 exact eqf_last (by rfl) (by go_simp;rfl) (by go_simp;rfl) (by go_simp)
end Go.Proofs.YteilnbnnhocciaaDoor.KV

/-! KV69 -/
namespace Go.Proofs.YteilnbnnhocciaaDoor.KV
open Go.RowKit Go.Proofs.YteilnbnnhocciaaDoorW.PrintWords Go.Proofs.YteilnbnnhocciaaDoorW.PrintLast Go.Proofs.YteilnbnnhocciaaDoorW.PrintMore Go.Proofs.YteilnbnnhocciaaDoorM
attribute [local go_sem] max2_int min2_int max_two min_two max_three min_three max_four min_four
attribute [local go_sem high] eqA111
def edit_Gone.l0:Nat → List (S111) → List (S111) → Int → Int → Option (Bool)
 | 0,_,_,_,_=>none
 | k + 1,x0,x1,x12,x13=>if x13 < x12 then (if 0 ≤ x13 then (if x13 < (x0.length:Int) then (if x13 < (x1.length:Int) then (if (!(((rd_T111 x0 x13).f0) == ((rd_T111 x1 x13).f0)) || (!(((rd_T111 x0 x13).f1) == ((rd_T111 x1 x13).f1)))) = true then (some false) else (edit_Gone.l0 k x0 x1 x12 (wrap64 (x13 + 1)))) else (none)) else (none)) else (none)) else (some true)
def edit_Gone.f (k:Nat) (l0:List (S111)) (l1:List (S111)):Option (Bool):=if (l0.length:Int) = (l1.length:Int) then (edit_Gone.l0 k l0 l1 (l0.length:Int) 0) else (some false)
set_option maxHeartbeats 8000000 in
set_option maxRecDepth 100000 in
theorem edit_Gone.calls (k:Nat) (A0:Option Addr) (c0:Nat) (l0:List (S111)) (A1:Option Addr) (c1:Nat) (l1:List (S111)) (r:Bool) (w:World) (hr0:Kd.C k111 w A0 l0.length l0) (hc0:l0.length ≤ c0) (hr1:Kd.C k111 w A1 l1.length l1) (hc1:l1.length ≤ c1) (h:edit_Gone.f k l0 l1 = some r) :
  Calls Tryd.prog 72 #[.slice A0 l0.length c0,.slice A1 l1.length c1] w fun e w'=>e = .returned (.bool r) ∧ Drawn0 w w':=by
 have hu111:=Tryd.underlying111
 have HR0:=Aside0.mk hr0
 have HC0:=Aside0.mk hc0
 clear hr0 hc0
 have HR1:=Aside0.mk hr1
 have HC1:=Aside0.mk hc1
 clear hr1 hc1
 have H:(if (l0.length:Int) = (l1.length:Int) then (edit_Gone.l0 k l0 l1 (l0.length:Int) 0) else (some false)) = some r:=h
 clear h
 by_cases c3:(l0.length:Int) = (l1.length:Int)
 ·rw [if_pos c3] at H
  have c3b0:((l0.length:Int) == (l1.length:Int)) = true:=beq_iff_eq.mpr c3
  have c3b1:((l0.length:Int) != (l1.length:Int)) = false:=bne_eq_false_iff_eq.mpr c3
  have c3b2:(l0.length == l1.length) = true:=by first | simpa using c3 | (simp at c3 ⊢;omega)
  clear c3
  have H':=Aside0.mk H
  clear H
  go_enter Tryd.func72,Tryd.ntmps72
  go_wp2
  repeat (go_quiet (fail);try go_wp2)
  go_loopg [13] k (fun kq v13 w'=>∃ (x13_1:Int),v13 = .int .i64 x13_1 ∧ Aside0 (edit_Gone.l0 kq l0 l1 (l0.length:Int) x13_1 = some r) ∧ Aside0 (kq ≤ k) ∧ Drawn0 w w')
  case atStart=>exact ⟨(0),(by first | rfl | (simp;done) | (simp [*];done)),H',⟨Nat.le_refl _⟩,by repeat (first | exact Drawn0.refl _ | apply Drawn0.step)⟩
  case round=>
   clear H'
   try clear c1
   try clear p2
   try clear c3
   try clear c3b0
   try clear c3b1
   try clear c3b2
   obtain ⟨x13_1,rfl,HA,HK1,⟨m1,rfl⟩⟩:=hrel
   cases gk with
   | zero=>exact absurd HA.out (by simp [edit_Gone.l0])
   | succ k1=>
    have H:=HA.out
    clear HA
    simp only [edit_Gone.l0] at H
    by_cases c4:x13_1 < (l0.length:Int)
    ·rw [if_pos c4] at H
     have c4b0:decide (x13_1 < (l0.length:Int)) = true:=decide_eq_true c4
     clear c4
     by_cases c5:0 ≤ x13_1
     ·rw [if_pos c5] at H
      have c5b0:decide (0 ≤ x13_1) = true:=decide_eq_true c5
      clear c5
      by_cases c6:x13_1 < (l0.length:Int)
      ·rw [if_pos c6] at H
       have c6b0:decide (x13_1 < (l0.length:Int)) = true:=decide_eq_true c6
       clear c6
       by_cases c7:x13_1 < (l1.length:Int)
       ·rw [if_pos c7] at H
        have c7b0:decide (x13_1 < (l1.length:Int)) = true:=decide_eq_true c7
        clear c7
        by_cases c8:(!(((rd_T111 l0 x13_1).f0) == ((rd_T111 l1 x13_1).f0)) || (!(((rd_T111 l0 x13_1).f1) == ((rd_T111 l1 x13_1).f1)))) = true
        ·rw [if_pos c8] at H
         have c8b0:(!(((rd_T111 l0 x13_1).f0) == ((rd_T111 l1 x13_1).f0)) || (!(((rd_T111 l0 x13_1).f1) == ((rd_T111 l1 x13_1).f1)))) = true:=c8
         clear c8
         obtain rfl:=Option.some.inj H
         have p251:0 ≤ (x13_1:Int):=of_decide_eq_true (by first | (with_reducible assumption) | assumption)
         have q251:x13_1 < (l0.length:Int):=of_decide_eq_true (by first | (with_reducible assumption) | assumption)
         obtain ⟨ad251,e251,hx251_0,hx251_1⟩:=at_T111 HR0.out x13_1 p251 q251
         cases e251
         replace p251:=eq_true p251
         replace q251:=eq_true q251
         have p252:0 ≤ (x13_1:Int):=of_decide_eq_true (by first | (with_reducible assumption) | assumption)
         have q252:x13_1 < (l1.length:Int):=of_decide_eq_true (by first | (with_reducible assumption) | assumption)
         obtain ⟨ad252,e252,hx252_0,hx252_1⟩:=at_T111 HR1.out x13_1 p252 q252
         cases e252
         replace p252:=eq_true p252
         replace q252:=eq_true q252
         go_wp2
         repeat (go_quiet (fail);try go_wp2)
         go_ret
         exact ⟨by first | rfl | (simp;done) | (simp [*];done),by repeat (first | exact Drawn0.refl _ | apply Drawn0.step)⟩
        ·rw [if_neg c8] at H
         have c8b0:(!(((rd_T111 l0 x13_1).f0) == ((rd_T111 l1 x13_1).f0)) || (!(((rd_T111 l0 x13_1).f1) == ((rd_T111 l1 x13_1).f1)))) = false:=by simpa using c8
         clear c8
         have H':=Aside0.mk H
         clear H
         have p251:0 ≤ (x13_1:Int):=of_decide_eq_true (by first | (with_reducible assumption) | assumption)
         have q251:x13_1 < (l0.length:Int):=of_decide_eq_true (by first | (with_reducible assumption) | assumption)
         obtain ⟨ad251,e251,hx251_0,hx251_1⟩:=at_T111 HR0.out x13_1 p251 q251
         cases e251
         replace p251:=eq_true p251
         replace q251:=eq_true q251
         have p252:0 ≤ (x13_1:Int):=of_decide_eq_true (by first | (with_reducible assumption) | assumption)
         have q252:x13_1 < (l1.length:Int):=of_decide_eq_true (by first | (with_reducible assumption) | assumption)
         obtain ⟨ad252,e252,hx252_0,hx252_1⟩:=at_T111 HR1.out x13_1 p252 q252
         cases e252
         replace p252:=eq_true p252
         replace q252:=eq_true q252
         go_wp2
         repeat (go_quiet (fail);try go_wp2)
         go_roundg k1
         case measure=>have:=HK1.out;omega
         case rel=>exact ⟨(wrap64 (x13_1 + 1)),(by first | rfl | (simp;done) | (simp [*];done)),H',⟨by have:=HK1.out;omega⟩,by repeat (first | exact Drawn0.refl _ | apply Drawn0.step)⟩
       ·rw [if_neg c7] at H
        exact absurd H (by simp)
      ·rw [if_neg c6] at H
       exact absurd H (by simp)
     ·rw [if_neg c5] at H
      exact absurd H (by simp)
    ·rw [if_neg c4] at H
     have c4b0:decide (x13_1 < (l0.length:Int)) = false:=decide_eq_false c4
     clear c4
     obtain rfl:=Option.some.inj H
     go_wp2
     repeat (go_quiet (fail);try go_wp2)
     go_ret
     exact ⟨by first | rfl | (simp;done) | (simp [*];done),by repeat (first | exact Drawn0.refl _ | apply Drawn0.step)⟩
 ·rw [if_neg c3] at H
  have c3b0:((l0.length:Int) == (l1.length:Int)) = false:=beq_eq_false_iff_ne.mpr c3
  have c3b1:((l0.length:Int) != (l1.length:Int)) = true:=bne_iff_ne.mpr c3
  have c3b2:(l0.length == l1.length) = false:=by first | simpa using c3 | (simp at c3 ⊢;omega)
  obtain rfl:=Option.some.inj H
  go_enter Tryd.func72,Tryd.ntmps72
  go_wp2
  repeat (go_quiet (fail);try go_wp2)
  go_ret
  exact ⟨by first | rfl | (simp;done) | (simp [*];done),by repeat (first | exact Drawn0.refl _ | apply Drawn0.step)⟩
end Go.Proofs.YteilnbnnhocciaaDoor.KV

/-! KV70 -/
namespace Go.Proofs.YteilnbnnhocciaaDoor.KV
open Go.RowKit Go.Proofs.YteilnbnnhocciaaDoorW.PrintWords Go.Proofs.YteilnbnnhocciaaDoorW.PrintLast Go.Proofs.YteilnbnnhocciaaDoorW.PrintMore Go.Proofs.YteilnbnnhocciaaDoorM
attribute [local go_sem] max2_int min2_int max_two min_two max_three min_three max_four min_four
def edit_Same.f (k:Nat) (a0_0:Int) (a0_1:Int) (a0_2:Int) (l0_3:List (S107)) (l0_4:List (S111)) (a1_0:Int) (a1_1:Int) (a1_2:Int) (l1_3:List (S107)) (l1_4:List (S111)):Option (Bool):=if a0_0 = a1_0 then (if a0_1 = a1_1 then (if a0_2 = a1_2 then ((edit_At.f k l0_3 l1_3).bind fun t255=>(if t255 = true then ((edit_Gone.f k l0_4 l1_4).bind fun t256=>(some t256)) else (some false))) else (some false)) else (some false)) else (some false)
set_option maxHeartbeats 8000000 in
set_option maxRecDepth 100000 in
theorem edit_Same.calls (k:Nat) (a0_0:Int) (a0_1:Int) (a0_2:Int) (A0_3:Option Addr) (c0_3:Nat) (l0_3:List (S107)) (A0_4:Option Addr) (c0_4:Nat) (l0_4:List (S111)) (a1_0:Int) (a1_1:Int) (a1_2:Int) (A1_3:Option Addr) (c1_3:Nat) (l1_3:List (S107)) (A1_4:Option Addr) (c1_4:Nat) (l1_4:List (S111)) (r:Bool) (w:World) (hr0_3:Kd.C k107 w A0_3 l0_3.length l0_3) (hc0_3:l0_3.length ≤ c0_3) (hr0_4:Kd.C k111 w A0_4 l0_4.length l0_4) (hc0_4:l0_4.length ≤ c0_4) (hr1_3:Kd.C k107 w A1_3 l1_3.length l1_3) (hc1_3:l1_3.length ≤ c1_3) (hr1_4:Kd.C k111 w A1_4 l1_4.length l1_4) (hc1_4:l1_4.length ≤ c1_4) (h:edit_Same.f k a0_0 a0_1 a0_2 l0_3 l0_4 a1_0 a1_1 a1_2 l1_3 l1_4 = some r) :
  Calls Tryd.prog 23 #[.agg #[.int .u64 a0_0,.int .u64 a0_1,.int .u64 a0_2,.slice A0_3 l0_3.length c0_3,.slice A0_4 l0_4.length c0_4],.agg #[.int .u64 a1_0,.int .u64 a1_1,.int .u64 a1_2,.slice A1_3 l1_3.length c1_3,.slice A1_4 l1_4.length c1_4]] w fun e w'=>e = .returned (.bool r) ∧ Below w.heap.size w w':=by
 have hu26:=Tryd.underlying26
 have HR0_3:=Aside0.mk hr0_3
 have HC0_3:=Aside0.mk hc0_3
 clear hr0_3 hc0_3
 have HR0_4:=Aside0.mk hr0_4
 have HC0_4:=Aside0.mk hc0_4
 clear hr0_4 hc0_4
 have HR1_3:=Aside0.mk hr1_3
 have HC1_3:=Aside0.mk hc1_3
 clear hr1_3 hc1_3
 have HR1_4:=Aside0.mk hr1_4
 have HC1_4:=Aside0.mk hc1_4
 clear hr1_4 hc1_4
 have HB:=Aside0.mk (Below.refl w.heap.size w)
 have H:(if a0_0 = a1_0 then (if a0_1 = a1_1 then (if a0_2 = a1_2 then ((edit_At.f k l0_3 l1_3).bind fun t255=>(if t255 = true then ((edit_Gone.f k l0_4 l1_4).bind fun t256=>(some t256)) else (some false))) else (some false)) else (some false)) else (some false)) = some r:=h
 clear h
 by_cases c3:a0_0 = a1_0
 ·rw [if_pos c3] at H
  have c3b0:(a0_0 == a1_0) = true:=beq_iff_eq.mpr c3
  have c3b1:(a0_0 != a1_0) = false:=bne_eq_false_iff_eq.mpr c3
  clear c3
  by_cases c4:a0_1 = a1_1
  ·rw [if_pos c4] at H
   have c4b0:(a0_1 == a1_1) = true:=beq_iff_eq.mpr c4
   have c4b1:(a0_1 != a1_1) = false:=bne_eq_false_iff_eq.mpr c4
   clear c4
   by_cases c5:a0_2 = a1_2
   ·rw [if_pos c5] at H
    have c5b0:(a0_2 == a1_2) = true:=beq_iff_eq.mpr c5
    have c5b1:(a0_2 != a1_2) = false:=bne_eq_false_iff_eq.mpr c5
    clear c5
    replace H:=Option.bind_eq_some_iff.mp H
    obtain ⟨t255,A60,H⟩:=H
    replace H:(if t255 = true then ((edit_Gone.f k l0_4 l1_4).bind fun t256=>(some t256)) else (some false)) = some r:=H
    have A6:=Aside0.mk A60
    clear A60
    by_cases c7:t255 = true
    ·subst c7
     have H1:((edit_Gone.f k l0_4 l1_4).bind fun t256=>(some t256)) = some r:=by rw [if_pos rfl] at H;exact H
     clear H
     have H:=H1
     clear H1
     replace H:=Option.bind_eq_some_iff.mp H
     obtain ⟨t256,A80,H⟩:=H
     replace H:(some t256) = some r:=H
     have A8:=Aside0.mk A80
     clear A80
     obtain rfl:=Option.some.inj H
     go_enter Tryd.func23,Tryd.ntmps23
     go_wp2_with (first | ((with_reducible refine gate_dst (N:=2) rfl ?_);refine box_event ?hg (N:=2) ?hd (cs:=#[.int .u64 a0_0,.int .u64 a0_1,.int .u64 a0_2,.slice A0_3 l0_3.length c0_3,.slice A0_4 l0_4.length c0_4]) (t:=26) ?hr ?_;(case hd=>rfl);(case hg=>rfl);(case hr=>first | (go_simp;done) | (go_simp;rfl));intro gb253 hg w9 hbox hb;have n0_:=Aside0.mk (below_step (by repeat (first | (with_reducible first | exact HB.out | apply below_alloc | apply pw_below_drewN | apply below_drew1) | exact HB.out)) hb);have n1_:=Aside0.mk (hbox);have n2_:=Aside0.mk ((by rw [hg];exact (below_size (by repeat (first | (with_reducible first | exact HB.out | apply below_alloc | apply pw_below_drewN | apply below_drew1) | exact HB.out))):w.heap.size ≤ gb253));have n3_:=Aside0.mk ((by rw [hg];exact (below_size (by repeat (first | (with_reducible first | exact HB.out | apply below_alloc | apply pw_below_drewN | apply below_drew1) | exact HB.out))):w.heap.size ≤ gb253));clear HB;have HB:=n0_;have BK253:=n1_;have GW253:=n2_;have GE253:=n3_;clear n0_ n1_ n2_ n3_;clear hb hbox hg) | ((with_reducible refine gate_dst (N:=3) rfl ?_);refine box_event ?hg (N:=3) ?hd (cs:=#[.int .u64 a1_0,.int .u64 a1_1,.int .u64 a1_2,.slice A1_3 l1_3.length c1_3,.slice A1_4 l1_4.length c1_4]) (t:=26) ?hr ?_;(case hd=>rfl);(case hg=>rfl);(case hr=>first | (go_simp;done) | (go_simp;rfl));intro gb254 hg w10 hbox hb;have n0_:=Aside0.mk (blk_below (g:=gb253) (o:=.cells #[.int .u64 a0_0,.int .u64 a0_1,.int .u64 a0_2,.slice A0_3 l0_3.length c0_3,.slice A0_4 l0_4.length c0_4] 26 (0,0)) (by (with_reducible repeat (first | refine blk_drewN ?_ _ | refine blk_drew ?_ | refine blk_alloc ?_ _));exact BK253.out) hb);have n1_:=Aside0.mk (below_step (by repeat (first | (with_reducible first | exact HB.out | apply below_alloc | apply pw_below_drewN | apply below_drew1 | refine below_set ?_ GE253.out) | exact HB.out)) hb);have n2_:=Aside0.mk (hbox);have n3_:=Aside0.mk ((by rw [hg];exact (below_size (by repeat (first | (with_reducible first | exact HB.out | apply below_alloc | apply pw_below_drewN | apply below_drew1 | refine below_set ?_ GE253.out) | exact HB.out))):w.heap.size ≤ gb254));have n4_:=Aside0.mk ((by rw [hg];exact (below_size (by repeat (first | (with_reducible first | exact HB.out | apply below_alloc | apply pw_below_drewN | apply below_drew1 | refine below_set ?_ GE253.out) | exact HB.out))):w.heap.size ≤ gb254));have n5_:=Aside0.mk ((by rw [hg];exact Nat.ne_of_lt (blk_lt (g:=gb253) (o:=.cells #[.int .u64 a0_0,.int .u64 a0_1,.int .u64 a0_2,.slice A0_3 l0_3.length c0_3,.slice A0_4 l0_4.length c0_4] 26 (0,0)) (by (with_reducible repeat (first | refine blk_drewN ?_ _ | refine blk_drew ?_ | refine blk_alloc ?_ _));exact BK253.out)):gb253 ≠ gb254));have n6_:=Aside0.mk ((by rw [hg];exact Nat.ne_of_gt (blk_lt (g:=gb253) (o:=.cells #[.int .u64 a0_0,.int .u64 a0_1,.int .u64 a0_2,.slice A0_3 l0_3.length c0_3,.slice A0_4 l0_4.length c0_4] 26 (0,0)) (by (with_reducible repeat (first | refine blk_drewN ?_ _ | refine blk_drew ?_ | refine blk_alloc ?_ _));exact BK253.out)):gb254 ≠ gb253));clear BK253;clear HB;have BK253:=n0_;have HB:=n1_;have BK254:=n2_;have GW254:=n3_;have GE254:=n4_;have NB253_254:=n5_;have NB254_253:=n6_;clear n0_ n1_ n2_ n3_ n4_ n5_ n6_;clear hb hbox hg;have hnb11:=NB253_254.out;have hnc11:=NB254_253.out;have hcz12_0:w10.cell? ⟨gb253,0,none⟩ = some (.int .u64 a0_0):=(blk_cell BK253.out 0).trans rfl;have hcz12_1:w10.cell? ⟨gb253,1,none⟩ = some (.int .u64 a0_1):=(blk_cell BK253.out 1).trans rfl;have hcz12_2:w10.cell? ⟨gb253,2,none⟩ = some (.int .u64 a0_2):=(blk_cell BK253.out 2).trans rfl;have hcz12_3:w10.cell? ⟨gb253,3,none⟩ = some (.slice A0_3 l0_3.length c0_3):=(blk_cell BK253.out 3).trans rfl;have hcz12_4:w10.cell? ⟨gb253,4,none⟩ = some (.slice A0_4 l0_4.length c0_4):=(blk_cell BK253.out 4).trans rfl;have hfz12_0:=blk_frozen BK253.out 0;have hfz12_1:=blk_frozen BK253.out 1;have hfz12_2:=blk_frozen BK253.out 2;have hfz12_3:=blk_frozen BK253.out 3;have hfz12_4:=blk_frozen BK253.out 4;have hcz13_0:w10.cell? ⟨gb254,0,none⟩ = some (.int .u64 a1_0):=(blk_cell BK254.out 0).trans rfl;have hcz13_1:w10.cell? ⟨gb254,1,none⟩ = some (.int .u64 a1_1):=(blk_cell BK254.out 1).trans rfl;have hcz13_2:w10.cell? ⟨gb254,2,none⟩ = some (.int .u64 a1_2):=(blk_cell BK254.out 2).trans rfl;have hcz13_3:w10.cell? ⟨gb254,3,none⟩ = some (.slice A1_3 l1_3.length c1_3):=(blk_cell BK254.out 3).trans rfl;have hcz13_4:w10.cell? ⟨gb254,4,none⟩ = some (.slice A1_4 l1_4.length c1_4):=(blk_cell BK254.out 4).trans rfl;have hfz13_0:=blk_frozen BK254.out 0;have hfz13_1:=blk_frozen BK254.out 1;have hfz13_2:=blk_frozen BK254.out 2;have hfz13_3:=blk_frozen BK254.out 3;have hfz13_4:=blk_frozen BK254.out 4) | (go_at_call 71;(with_reducible refine (edit_At.calls k _ _ l0_3 _ _ l1_3 true _ ?side1 ?side2 ?side3 ?side4 A6.out).mono ?_);(case side1=>repeat (first | exact (Kd.C_below HR0_3.out HB.out) | (with_reducible refine Kd.C_alloc ?_ _) | (with_reducible refine Kd.C_drewN ?_ _) | (with_reducible refine Kd.C_drew ?_)));(case side2=>exact HC0_3.out);(case side3=>repeat (first | exact (Kd.C_below HR1_3.out HB.out) | (with_reducible refine Kd.C_alloc ?_ _) | (with_reducible refine Kd.C_drewN ?_ _) | (with_reducible refine Kd.C_drew ?_)));(case side4=>exact HC1_3.out);rintro e w' ⟨rfl,⟨nd,rfl⟩⟩) | (go_at_call 72;(with_reducible refine (edit_Gone.calls k _ _ l0_4 _ _ l1_4 t256 _ ?side1 ?side2 ?side3 ?side4 A8.out).mono ?_);(case side1=>repeat (first | exact (Kd.C_below HR0_4.out (by repeat (first | (with_reducible first | exact HB.out | apply below_alloc | apply pw_below_drewN | apply below_drew1 | refine below_set ?_ GE253.out | refine below_set ?_ GE254.out) | exact HB.out))) | (with_reducible refine Kd.C_alloc ?_ _) | (with_reducible refine Kd.C_drewN ?_ _) | (with_reducible refine Kd.C_drew ?_)));(case side2=>exact HC0_4.out);(case side3=>repeat (first | exact (Kd.C_below HR1_4.out (by repeat (first | (with_reducible first | exact HB.out | apply below_alloc | apply pw_below_drewN | apply below_drew1 | refine below_set ?_ GE253.out | refine below_set ?_ GE254.out) | exact HB.out))) | (with_reducible refine Kd.C_alloc ?_ _) | (with_reducible refine Kd.C_drewN ?_ _) | (with_reducible refine Kd.C_drew ?_)));(case side4=>exact HC1_4.out);rintro e w' ⟨rfl,⟨nd,rfl⟩⟩))
     go_ret
     exact ⟨by first | rfl | (simp [errW_none,errW_some] <;> rfl) | (simp [*,errW_none,errW_some] <;> rfl),by repeat (first | (with_reducible first | exact HB.out | apply below_alloc | apply pw_below_drewN | apply below_drew1 | refine below_set ?_ GE253.out | refine below_set ?_ GE254.out) | exact HB.out)⟩
    ·replace c7:=Bool.eq_false_iff.mpr c7
     subst c7
     have H1:(some false) = some r:=by rw [if_neg (show ¬ (false = true) by decide)] at H;exact H
     clear H
     have H:=H1
     clear H1
     obtain rfl:=Option.some.inj H
     go_enter Tryd.func23,Tryd.ntmps23
     go_wp2_with (first | ((with_reducible refine gate_dst (N:=2) rfl ?_);refine box_event ?hg (N:=2) ?hd (cs:=#[.int .u64 a0_0,.int .u64 a0_1,.int .u64 a0_2,.slice A0_3 l0_3.length c0_3,.slice A0_4 l0_4.length c0_4]) (t:=26) ?hr ?_;(case hd=>rfl);(case hg=>rfl);(case hr=>first | (go_simp;done) | (go_simp;rfl));intro gb253 hg w14 hbox hb;have n0_:=Aside0.mk (below_step (by repeat (first | (with_reducible first | exact HB.out | apply below_alloc | apply pw_below_drewN | apply below_drew1) | exact HB.out)) hb);have n1_:=Aside0.mk (hbox);have n2_:=Aside0.mk ((by rw [hg];exact (below_size (by repeat (first | (with_reducible first | exact HB.out | apply below_alloc | apply pw_below_drewN | apply below_drew1) | exact HB.out))):w.heap.size ≤ gb253));have n3_:=Aside0.mk ((by rw [hg];exact (below_size (by repeat (first | (with_reducible first | exact HB.out | apply below_alloc | apply pw_below_drewN | apply below_drew1) | exact HB.out))):w.heap.size ≤ gb253));clear HB;have HB:=n0_;have BK253:=n1_;have GW253:=n2_;have GE253:=n3_;clear n0_ n1_ n2_ n3_;clear hb hbox hg) | ((with_reducible refine gate_dst (N:=3) rfl ?_);refine box_event ?hg (N:=3) ?hd (cs:=#[.int .u64 a1_0,.int .u64 a1_1,.int .u64 a1_2,.slice A1_3 l1_3.length c1_3,.slice A1_4 l1_4.length c1_4]) (t:=26) ?hr ?_;(case hd=>rfl);(case hg=>rfl);(case hr=>first | (go_simp;done) | (go_simp;rfl));intro gb254 hg w15 hbox hb;have n0_:=Aside0.mk (blk_below (g:=gb253) (o:=.cells #[.int .u64 a0_0,.int .u64 a0_1,.int .u64 a0_2,.slice A0_3 l0_3.length c0_3,.slice A0_4 l0_4.length c0_4] 26 (0,0)) (by (with_reducible repeat (first | refine blk_drewN ?_ _ | refine blk_drew ?_ | refine blk_alloc ?_ _));exact BK253.out) hb);have n1_:=Aside0.mk (below_step (by repeat (first | (with_reducible first | exact HB.out | apply below_alloc | apply pw_below_drewN | apply below_drew1 | refine below_set ?_ GE253.out) | exact HB.out)) hb);have n2_:=Aside0.mk (hbox);have n3_:=Aside0.mk ((by rw [hg];exact (below_size (by repeat (first | (with_reducible first | exact HB.out | apply below_alloc | apply pw_below_drewN | apply below_drew1 | refine below_set ?_ GE253.out) | exact HB.out))):w.heap.size ≤ gb254));have n4_:=Aside0.mk ((by rw [hg];exact (below_size (by repeat (first | (with_reducible first | exact HB.out | apply below_alloc | apply pw_below_drewN | apply below_drew1 | refine below_set ?_ GE253.out) | exact HB.out))):w.heap.size ≤ gb254));have n5_:=Aside0.mk ((by rw [hg];exact Nat.ne_of_lt (blk_lt (g:=gb253) (o:=.cells #[.int .u64 a0_0,.int .u64 a0_1,.int .u64 a0_2,.slice A0_3 l0_3.length c0_3,.slice A0_4 l0_4.length c0_4] 26 (0,0)) (by (with_reducible repeat (first | refine blk_drewN ?_ _ | refine blk_drew ?_ | refine blk_alloc ?_ _));exact BK253.out)):gb253 ≠ gb254));have n6_:=Aside0.mk ((by rw [hg];exact Nat.ne_of_gt (blk_lt (g:=gb253) (o:=.cells #[.int .u64 a0_0,.int .u64 a0_1,.int .u64 a0_2,.slice A0_3 l0_3.length c0_3,.slice A0_4 l0_4.length c0_4] 26 (0,0)) (by (with_reducible repeat (first | refine blk_drewN ?_ _ | refine blk_drew ?_ | refine blk_alloc ?_ _));exact BK253.out)):gb254 ≠ gb253));clear BK253;clear HB;have BK253:=n0_;have HB:=n1_;have BK254:=n2_;have GW254:=n3_;have GE254:=n4_;have NB253_254:=n5_;have NB254_253:=n6_;clear n0_ n1_ n2_ n3_ n4_ n5_ n6_;clear hb hbox hg;have hnb16:=NB253_254.out;have hnc16:=NB254_253.out;have hcz17_0:w15.cell? ⟨gb253,0,none⟩ = some (.int .u64 a0_0):=(blk_cell BK253.out 0).trans rfl;have hcz17_1:w15.cell? ⟨gb253,1,none⟩ = some (.int .u64 a0_1):=(blk_cell BK253.out 1).trans rfl;have hcz17_2:w15.cell? ⟨gb253,2,none⟩ = some (.int .u64 a0_2):=(blk_cell BK253.out 2).trans rfl;have hcz17_3:w15.cell? ⟨gb253,3,none⟩ = some (.slice A0_3 l0_3.length c0_3):=(blk_cell BK253.out 3).trans rfl;have hcz17_4:w15.cell? ⟨gb253,4,none⟩ = some (.slice A0_4 l0_4.length c0_4):=(blk_cell BK253.out 4).trans rfl;have hfz17_0:=blk_frozen BK253.out 0;have hfz17_1:=blk_frozen BK253.out 1;have hfz17_2:=blk_frozen BK253.out 2;have hfz17_3:=blk_frozen BK253.out 3;have hfz17_4:=blk_frozen BK253.out 4;have hcz18_0:w15.cell? ⟨gb254,0,none⟩ = some (.int .u64 a1_0):=(blk_cell BK254.out 0).trans rfl;have hcz18_1:w15.cell? ⟨gb254,1,none⟩ = some (.int .u64 a1_1):=(blk_cell BK254.out 1).trans rfl;have hcz18_2:w15.cell? ⟨gb254,2,none⟩ = some (.int .u64 a1_2):=(blk_cell BK254.out 2).trans rfl;have hcz18_3:w15.cell? ⟨gb254,3,none⟩ = some (.slice A1_3 l1_3.length c1_3):=(blk_cell BK254.out 3).trans rfl;have hcz18_4:w15.cell? ⟨gb254,4,none⟩ = some (.slice A1_4 l1_4.length c1_4):=(blk_cell BK254.out 4).trans rfl;have hfz18_0:=blk_frozen BK254.out 0;have hfz18_1:=blk_frozen BK254.out 1;have hfz18_2:=blk_frozen BK254.out 2;have hfz18_3:=blk_frozen BK254.out 3;have hfz18_4:=blk_frozen BK254.out 4) | (go_at_call 71;(with_reducible refine (edit_At.calls k _ _ l0_3 _ _ l1_3 false _ ?side1 ?side2 ?side3 ?side4 A6.out).mono ?_);(case side1=>repeat (first | exact (Kd.C_below HR0_3.out HB.out) | (with_reducible refine Kd.C_alloc ?_ _) | (with_reducible refine Kd.C_drewN ?_ _) | (with_reducible refine Kd.C_drew ?_)));(case side2=>exact HC0_3.out);(case side3=>repeat (first | exact (Kd.C_below HR1_3.out HB.out) | (with_reducible refine Kd.C_alloc ?_ _) | (with_reducible refine Kd.C_drewN ?_ _) | (with_reducible refine Kd.C_drew ?_)));(case side4=>exact HC1_3.out);rintro e w' ⟨rfl,⟨nd,rfl⟩⟩))
     go_ret
     exact ⟨by first | rfl | (simp [errW_none,errW_some] <;> rfl) | (simp [*,errW_none,errW_some] <;> rfl),by repeat (first | (with_reducible first | exact HB.out | apply below_alloc | apply pw_below_drewN | apply below_drew1 | refine below_set ?_ GE253.out | refine below_set ?_ GE254.out) | exact HB.out)⟩
   ·rw [if_neg c5] at H
    have c5b0:(a0_2 == a1_2) = false:=beq_eq_false_iff_ne.mpr c5
    have c5b1:(a0_2 != a1_2) = true:=bne_iff_ne.mpr c5
    obtain rfl:=Option.some.inj H
    go_enter Tryd.func23,Tryd.ntmps23
    go_wp2_with (first | ((with_reducible refine gate_dst (N:=2) rfl ?_);refine box_event ?hg (N:=2) ?hd (cs:=#[.int .u64 a0_0,.int .u64 a0_1,.int .u64 a0_2,.slice A0_3 l0_3.length c0_3,.slice A0_4 l0_4.length c0_4]) (t:=26) ?hr ?_;(case hd=>rfl);(case hg=>rfl);(case hr=>first | (go_simp;done) | (go_simp;rfl));intro gb253 hg w19 hbox hb;have n0_:=Aside0.mk (below_step (by repeat (first | (with_reducible first | exact HB.out | apply below_alloc | apply pw_below_drewN | apply below_drew1) | exact HB.out)) hb);have n1_:=Aside0.mk (hbox);have n2_:=Aside0.mk ((by rw [hg];exact (below_size (by repeat (first | (with_reducible first | exact HB.out | apply below_alloc | apply pw_below_drewN | apply below_drew1) | exact HB.out))):w.heap.size ≤ gb253));have n3_:=Aside0.mk ((by rw [hg];exact (below_size (by repeat (first | (with_reducible first | exact HB.out | apply below_alloc | apply pw_below_drewN | apply below_drew1) | exact HB.out))):w.heap.size ≤ gb253));clear HB;have HB:=n0_;have BK253:=n1_;have GW253:=n2_;have GE253:=n3_;clear n0_ n1_ n2_ n3_;clear hb hbox hg) | ((with_reducible refine gate_dst (N:=3) rfl ?_);refine box_event ?hg (N:=3) ?hd (cs:=#[.int .u64 a1_0,.int .u64 a1_1,.int .u64 a1_2,.slice A1_3 l1_3.length c1_3,.slice A1_4 l1_4.length c1_4]) (t:=26) ?hr ?_;(case hd=>rfl);(case hg=>rfl);(case hr=>first | (go_simp;done) | (go_simp;rfl));intro gb254 hg w20 hbox hb;have n0_:=Aside0.mk (blk_below (g:=gb253) (o:=.cells #[.int .u64 a0_0,.int .u64 a0_1,.int .u64 a0_2,.slice A0_3 l0_3.length c0_3,.slice A0_4 l0_4.length c0_4] 26 (0,0)) (by (with_reducible repeat (first | refine blk_drewN ?_ _ | refine blk_drew ?_ | refine blk_alloc ?_ _));exact BK253.out) hb);have n1_:=Aside0.mk (below_step (by repeat (first | (with_reducible first | exact HB.out | apply below_alloc | apply pw_below_drewN | apply below_drew1 | refine below_set ?_ GE253.out) | exact HB.out)) hb);have n2_:=Aside0.mk (hbox);have n3_:=Aside0.mk ((by rw [hg];exact (below_size (by repeat (first | (with_reducible first | exact HB.out | apply below_alloc | apply pw_below_drewN | apply below_drew1 | refine below_set ?_ GE253.out) | exact HB.out))):w.heap.size ≤ gb254));have n4_:=Aside0.mk ((by rw [hg];exact (below_size (by repeat (first | (with_reducible first | exact HB.out | apply below_alloc | apply pw_below_drewN | apply below_drew1 | refine below_set ?_ GE253.out) | exact HB.out))):w.heap.size ≤ gb254));have n5_:=Aside0.mk ((by rw [hg];exact Nat.ne_of_lt (blk_lt (g:=gb253) (o:=.cells #[.int .u64 a0_0,.int .u64 a0_1,.int .u64 a0_2,.slice A0_3 l0_3.length c0_3,.slice A0_4 l0_4.length c0_4] 26 (0,0)) (by (with_reducible repeat (first | refine blk_drewN ?_ _ | refine blk_drew ?_ | refine blk_alloc ?_ _));exact BK253.out)):gb253 ≠ gb254));have n6_:=Aside0.mk ((by rw [hg];exact Nat.ne_of_gt (blk_lt (g:=gb253) (o:=.cells #[.int .u64 a0_0,.int .u64 a0_1,.int .u64 a0_2,.slice A0_3 l0_3.length c0_3,.slice A0_4 l0_4.length c0_4] 26 (0,0)) (by (with_reducible repeat (first | refine blk_drewN ?_ _ | refine blk_drew ?_ | refine blk_alloc ?_ _));exact BK253.out)):gb254 ≠ gb253));clear BK253;clear HB;have BK253:=n0_;have HB:=n1_;have BK254:=n2_;have GW254:=n3_;have GE254:=n4_;have NB253_254:=n5_;have NB254_253:=n6_;clear n0_ n1_ n2_ n3_ n4_ n5_ n6_;clear hb hbox hg;have hnb21:=NB253_254.out;have hnc21:=NB254_253.out;have hcz22_0:w20.cell? ⟨gb253,0,none⟩ = some (.int .u64 a0_0):=(blk_cell BK253.out 0).trans rfl;have hcz22_1:w20.cell? ⟨gb253,1,none⟩ = some (.int .u64 a0_1):=(blk_cell BK253.out 1).trans rfl;have hcz22_2:w20.cell? ⟨gb253,2,none⟩ = some (.int .u64 a0_2):=(blk_cell BK253.out 2).trans rfl;have hcz22_3:w20.cell? ⟨gb253,3,none⟩ = some (.slice A0_3 l0_3.length c0_3):=(blk_cell BK253.out 3).trans rfl;have hcz22_4:w20.cell? ⟨gb253,4,none⟩ = some (.slice A0_4 l0_4.length c0_4):=(blk_cell BK253.out 4).trans rfl;have hfz22_0:=blk_frozen BK253.out 0;have hfz22_1:=blk_frozen BK253.out 1;have hfz22_2:=blk_frozen BK253.out 2;have hfz22_3:=blk_frozen BK253.out 3;have hfz22_4:=blk_frozen BK253.out 4;have hcz23_0:w20.cell? ⟨gb254,0,none⟩ = some (.int .u64 a1_0):=(blk_cell BK254.out 0).trans rfl;have hcz23_1:w20.cell? ⟨gb254,1,none⟩ = some (.int .u64 a1_1):=(blk_cell BK254.out 1).trans rfl;have hcz23_2:w20.cell? ⟨gb254,2,none⟩ = some (.int .u64 a1_2):=(blk_cell BK254.out 2).trans rfl;have hcz23_3:w20.cell? ⟨gb254,3,none⟩ = some (.slice A1_3 l1_3.length c1_3):=(blk_cell BK254.out 3).trans rfl;have hcz23_4:w20.cell? ⟨gb254,4,none⟩ = some (.slice A1_4 l1_4.length c1_4):=(blk_cell BK254.out 4).trans rfl;have hfz23_0:=blk_frozen BK254.out 0;have hfz23_1:=blk_frozen BK254.out 1;have hfz23_2:=blk_frozen BK254.out 2;have hfz23_3:=blk_frozen BK254.out 3;have hfz23_4:=blk_frozen BK254.out 4))
    go_ret
    exact ⟨by first | rfl | (simp [errW_none,errW_some] <;> rfl) | (simp [*,errW_none,errW_some] <;> rfl),by repeat (first | (with_reducible first | exact HB.out | apply below_alloc | apply pw_below_drewN | apply below_drew1 | refine below_set ?_ GE253.out | refine below_set ?_ GE254.out) | exact HB.out)⟩
  ·rw [if_neg c4] at H
   have c4b0:(a0_1 == a1_1) = false:=beq_eq_false_iff_ne.mpr c4
   have c4b1:(a0_1 != a1_1) = true:=bne_iff_ne.mpr c4
   obtain rfl:=Option.some.inj H
   go_enter Tryd.func23,Tryd.ntmps23
   go_wp2_with (first | ((with_reducible refine gate_dst (N:=2) rfl ?_);refine box_event ?hg (N:=2) ?hd (cs:=#[.int .u64 a0_0,.int .u64 a0_1,.int .u64 a0_2,.slice A0_3 l0_3.length c0_3,.slice A0_4 l0_4.length c0_4]) (t:=26) ?hr ?_;(case hd=>rfl);(case hg=>rfl);(case hr=>first | (go_simp;done) | (go_simp;rfl));intro gb253 hg w24 hbox hb;have n0_:=Aside0.mk (below_step (by repeat (first | (with_reducible first | exact HB.out | apply below_alloc | apply pw_below_drewN | apply below_drew1) | exact HB.out)) hb);have n1_:=Aside0.mk (hbox);have n2_:=Aside0.mk ((by rw [hg];exact (below_size (by repeat (first | (with_reducible first | exact HB.out | apply below_alloc | apply pw_below_drewN | apply below_drew1) | exact HB.out))):w.heap.size ≤ gb253));have n3_:=Aside0.mk ((by rw [hg];exact (below_size (by repeat (first | (with_reducible first | exact HB.out | apply below_alloc | apply pw_below_drewN | apply below_drew1) | exact HB.out))):w.heap.size ≤ gb253));clear HB;have HB:=n0_;have BK253:=n1_;have GW253:=n2_;have GE253:=n3_;clear n0_ n1_ n2_ n3_;clear hb hbox hg) | ((with_reducible refine gate_dst (N:=3) rfl ?_);refine box_event ?hg (N:=3) ?hd (cs:=#[.int .u64 a1_0,.int .u64 a1_1,.int .u64 a1_2,.slice A1_3 l1_3.length c1_3,.slice A1_4 l1_4.length c1_4]) (t:=26) ?hr ?_;(case hd=>rfl);(case hg=>rfl);(case hr=>first | (go_simp;done) | (go_simp;rfl));intro gb254 hg w25 hbox hb;have n0_:=Aside0.mk (blk_below (g:=gb253) (o:=.cells #[.int .u64 a0_0,.int .u64 a0_1,.int .u64 a0_2,.slice A0_3 l0_3.length c0_3,.slice A0_4 l0_4.length c0_4] 26 (0,0)) (by (with_reducible repeat (first | refine blk_drewN ?_ _ | refine blk_drew ?_ | refine blk_alloc ?_ _));exact BK253.out) hb);have n1_:=Aside0.mk (below_step (by repeat (first | (with_reducible first | exact HB.out | apply below_alloc | apply pw_below_drewN | apply below_drew1 | refine below_set ?_ GE253.out) | exact HB.out)) hb);have n2_:=Aside0.mk (hbox);have n3_:=Aside0.mk ((by rw [hg];exact (below_size (by repeat (first | (with_reducible first | exact HB.out | apply below_alloc | apply pw_below_drewN | apply below_drew1 | refine below_set ?_ GE253.out) | exact HB.out))):w.heap.size ≤ gb254));have n4_:=Aside0.mk ((by rw [hg];exact (below_size (by repeat (first | (with_reducible first | exact HB.out | apply below_alloc | apply pw_below_drewN | apply below_drew1 | refine below_set ?_ GE253.out) | exact HB.out))):w.heap.size ≤ gb254));have n5_:=Aside0.mk ((by rw [hg];exact Nat.ne_of_lt (blk_lt (g:=gb253) (o:=.cells #[.int .u64 a0_0,.int .u64 a0_1,.int .u64 a0_2,.slice A0_3 l0_3.length c0_3,.slice A0_4 l0_4.length c0_4] 26 (0,0)) (by (with_reducible repeat (first | refine blk_drewN ?_ _ | refine blk_drew ?_ | refine blk_alloc ?_ _));exact BK253.out)):gb253 ≠ gb254));have n6_:=Aside0.mk ((by rw [hg];exact Nat.ne_of_gt (blk_lt (g:=gb253) (o:=.cells #[.int .u64 a0_0,.int .u64 a0_1,.int .u64 a0_2,.slice A0_3 l0_3.length c0_3,.slice A0_4 l0_4.length c0_4] 26 (0,0)) (by (with_reducible repeat (first | refine blk_drewN ?_ _ | refine blk_drew ?_ | refine blk_alloc ?_ _));exact BK253.out)):gb254 ≠ gb253));clear BK253;clear HB;have BK253:=n0_;have HB:=n1_;have BK254:=n2_;have GW254:=n3_;have GE254:=n4_;have NB253_254:=n5_;have NB254_253:=n6_;clear n0_ n1_ n2_ n3_ n4_ n5_ n6_;clear hb hbox hg;have hnb26:=NB253_254.out;have hnc26:=NB254_253.out;have hcz27_0:w25.cell? ⟨gb253,0,none⟩ = some (.int .u64 a0_0):=(blk_cell BK253.out 0).trans rfl;have hcz27_1:w25.cell? ⟨gb253,1,none⟩ = some (.int .u64 a0_1):=(blk_cell BK253.out 1).trans rfl;have hcz27_2:w25.cell? ⟨gb253,2,none⟩ = some (.int .u64 a0_2):=(blk_cell BK253.out 2).trans rfl;have hcz27_3:w25.cell? ⟨gb253,3,none⟩ = some (.slice A0_3 l0_3.length c0_3):=(blk_cell BK253.out 3).trans rfl;have hcz27_4:w25.cell? ⟨gb253,4,none⟩ = some (.slice A0_4 l0_4.length c0_4):=(blk_cell BK253.out 4).trans rfl;have hfz27_0:=blk_frozen BK253.out 0;have hfz27_1:=blk_frozen BK253.out 1;have hfz27_2:=blk_frozen BK253.out 2;have hfz27_3:=blk_frozen BK253.out 3;have hfz27_4:=blk_frozen BK253.out 4;have hcz28_0:w25.cell? ⟨gb254,0,none⟩ = some (.int .u64 a1_0):=(blk_cell BK254.out 0).trans rfl;have hcz28_1:w25.cell? ⟨gb254,1,none⟩ = some (.int .u64 a1_1):=(blk_cell BK254.out 1).trans rfl;have hcz28_2:w25.cell? ⟨gb254,2,none⟩ = some (.int .u64 a1_2):=(blk_cell BK254.out 2).trans rfl;have hcz28_3:w25.cell? ⟨gb254,3,none⟩ = some (.slice A1_3 l1_3.length c1_3):=(blk_cell BK254.out 3).trans rfl;have hcz28_4:w25.cell? ⟨gb254,4,none⟩ = some (.slice A1_4 l1_4.length c1_4):=(blk_cell BK254.out 4).trans rfl;have hfz28_0:=blk_frozen BK254.out 0;have hfz28_1:=blk_frozen BK254.out 1;have hfz28_2:=blk_frozen BK254.out 2;have hfz28_3:=blk_frozen BK254.out 3;have hfz28_4:=blk_frozen BK254.out 4))
   go_ret
   exact ⟨by first | rfl | (simp [errW_none,errW_some] <;> rfl) | (simp [*,errW_none,errW_some] <;> rfl),by repeat (first | (with_reducible first | exact HB.out | apply below_alloc | apply pw_below_drewN | apply below_drew1 | refine below_set ?_ GE253.out | refine below_set ?_ GE254.out) | exact HB.out)⟩
 ·rw [if_neg c3] at H
  have c3b0:(a0_0 == a1_0) = false:=beq_eq_false_iff_ne.mpr c3
  have c3b1:(a0_0 != a1_0) = true:=bne_iff_ne.mpr c3
  obtain rfl:=Option.some.inj H
  go_enter Tryd.func23,Tryd.ntmps23
  go_wp2_with (first | ((with_reducible refine gate_dst (N:=2) rfl ?_);refine box_event ?hg (N:=2) ?hd (cs:=#[.int .u64 a0_0,.int .u64 a0_1,.int .u64 a0_2,.slice A0_3 l0_3.length c0_3,.slice A0_4 l0_4.length c0_4]) (t:=26) ?hr ?_;(case hd=>rfl);(case hg=>rfl);(case hr=>first | (go_simp;done) | (go_simp;rfl));intro gb253 hg w29 hbox hb;have n0_:=Aside0.mk (below_step (by repeat (first | (with_reducible first | exact HB.out | apply below_alloc | apply pw_below_drewN | apply below_drew1) | exact HB.out)) hb);have n1_:=Aside0.mk (hbox);have n2_:=Aside0.mk ((by rw [hg];exact (below_size (by repeat (first | (with_reducible first | exact HB.out | apply below_alloc | apply pw_below_drewN | apply below_drew1) | exact HB.out))):w.heap.size ≤ gb253));have n3_:=Aside0.mk ((by rw [hg];exact (below_size (by repeat (first | (with_reducible first | exact HB.out | apply below_alloc | apply pw_below_drewN | apply below_drew1) | exact HB.out))):w.heap.size ≤ gb253));clear HB;have HB:=n0_;have BK253:=n1_;have GW253:=n2_;have GE253:=n3_;clear n0_ n1_ n2_ n3_;clear hb hbox hg) | ((with_reducible refine gate_dst (N:=3) rfl ?_);refine box_event ?hg (N:=3) ?hd (cs:=#[.int .u64 a1_0,.int .u64 a1_1,.int .u64 a1_2,.slice A1_3 l1_3.length c1_3,.slice A1_4 l1_4.length c1_4]) (t:=26) ?hr ?_;(case hd=>rfl);(case hg=>rfl);(case hr=>first | (go_simp;done) | (go_simp;rfl));intro gb254 hg w30 hbox hb;have n0_:=Aside0.mk (blk_below (g:=gb253) (o:=.cells #[.int .u64 a0_0,.int .u64 a0_1,.int .u64 a0_2,.slice A0_3 l0_3.length c0_3,.slice A0_4 l0_4.length c0_4] 26 (0,0)) (by (with_reducible repeat (first | refine blk_drewN ?_ _ | refine blk_drew ?_ | refine blk_alloc ?_ _));exact BK253.out) hb);have n1_:=Aside0.mk (below_step (by repeat (first | (with_reducible first | exact HB.out | apply below_alloc | apply pw_below_drewN | apply below_drew1 | refine below_set ?_ GE253.out) | exact HB.out)) hb);have n2_:=Aside0.mk (hbox);have n3_:=Aside0.mk ((by rw [hg];exact (below_size (by repeat (first | (with_reducible first | exact HB.out | apply below_alloc | apply pw_below_drewN | apply below_drew1 | refine below_set ?_ GE253.out) | exact HB.out))):w.heap.size ≤ gb254));have n4_:=Aside0.mk ((by rw [hg];exact (below_size (by repeat (first | (with_reducible first | exact HB.out | apply below_alloc | apply pw_below_drewN | apply below_drew1 | refine below_set ?_ GE253.out) | exact HB.out))):w.heap.size ≤ gb254));have n5_:=Aside0.mk ((by rw [hg];exact Nat.ne_of_lt (blk_lt (g:=gb253) (o:=.cells #[.int .u64 a0_0,.int .u64 a0_1,.int .u64 a0_2,.slice A0_3 l0_3.length c0_3,.slice A0_4 l0_4.length c0_4] 26 (0,0)) (by (with_reducible repeat (first | refine blk_drewN ?_ _ | refine blk_drew ?_ | refine blk_alloc ?_ _));exact BK253.out)):gb253 ≠ gb254));have n6_:=Aside0.mk ((by rw [hg];exact Nat.ne_of_gt (blk_lt (g:=gb253) (o:=.cells #[.int .u64 a0_0,.int .u64 a0_1,.int .u64 a0_2,.slice A0_3 l0_3.length c0_3,.slice A0_4 l0_4.length c0_4] 26 (0,0)) (by (with_reducible repeat (first | refine blk_drewN ?_ _ | refine blk_drew ?_ | refine blk_alloc ?_ _));exact BK253.out)):gb254 ≠ gb253));clear BK253;clear HB;have BK253:=n0_;have HB:=n1_;have BK254:=n2_;have GW254:=n3_;have GE254:=n4_;have NB253_254:=n5_;have NB254_253:=n6_;clear n0_ n1_ n2_ n3_ n4_ n5_ n6_;clear hb hbox hg;have hnb31:=NB253_254.out;have hnc31:=NB254_253.out;have hcz32_0:w30.cell? ⟨gb253,0,none⟩ = some (.int .u64 a0_0):=(blk_cell BK253.out 0).trans rfl;have hcz32_1:w30.cell? ⟨gb253,1,none⟩ = some (.int .u64 a0_1):=(blk_cell BK253.out 1).trans rfl;have hcz32_2:w30.cell? ⟨gb253,2,none⟩ = some (.int .u64 a0_2):=(blk_cell BK253.out 2).trans rfl;have hcz32_3:w30.cell? ⟨gb253,3,none⟩ = some (.slice A0_3 l0_3.length c0_3):=(blk_cell BK253.out 3).trans rfl;have hcz32_4:w30.cell? ⟨gb253,4,none⟩ = some (.slice A0_4 l0_4.length c0_4):=(blk_cell BK253.out 4).trans rfl;have hfz32_0:=blk_frozen BK253.out 0;have hfz32_1:=blk_frozen BK253.out 1;have hfz32_2:=blk_frozen BK253.out 2;have hfz32_3:=blk_frozen BK253.out 3;have hfz32_4:=blk_frozen BK253.out 4;have hcz33_0:w30.cell? ⟨gb254,0,none⟩ = some (.int .u64 a1_0):=(blk_cell BK254.out 0).trans rfl;have hcz33_1:w30.cell? ⟨gb254,1,none⟩ = some (.int .u64 a1_1):=(blk_cell BK254.out 1).trans rfl;have hcz33_2:w30.cell? ⟨gb254,2,none⟩ = some (.int .u64 a1_2):=(blk_cell BK254.out 2).trans rfl;have hcz33_3:w30.cell? ⟨gb254,3,none⟩ = some (.slice A1_3 l1_3.length c1_3):=(blk_cell BK254.out 3).trans rfl;have hcz33_4:w30.cell? ⟨gb254,4,none⟩ = some (.slice A1_4 l1_4.length c1_4):=(blk_cell BK254.out 4).trans rfl;have hfz33_0:=blk_frozen BK254.out 0;have hfz33_1:=blk_frozen BK254.out 1;have hfz33_2:=blk_frozen BK254.out 2;have hfz33_3:=blk_frozen BK254.out 3;have hfz33_4:=blk_frozen BK254.out 4))
  go_ret
  exact ⟨by first | rfl | (simp [errW_none,errW_some] <;> rfl) | (simp [*,errW_none,errW_some] <;> rfl),by repeat (first | (with_reducible first | exact HB.out | apply below_alloc | apply pw_below_drewN | apply below_drew1 | refine below_set ?_ GE253.out | refine below_set ?_ GE254.out) | exact HB.out)⟩
end Go.Proofs.YteilnbnnhocciaaDoor.KV

/-! V60 -/
namespace Go.Proofs.YteilnbnnhocciaaDoor.V
open Go.RowKit Go.Lib Go.Proofs.YteilnbnnhocciaaDoorW.PrintWords Go.Proofs.YteilnbnnhocciaaDoorW.PrintMore Go.Proofs.YteilnbnnhocciaaDoorM Go.Proofs.YteilnbnnhocciaaDoor.KV
theorem rdw107 {l:List S107} {i:Nat} (h:i < l.length):rd_T107 l (i:Int) = l[i]:=by simp [rd_T107,List.getD,h]
theorem wrapw {n:Int} (h0:0 ≤ n) (h1:n ≤ 9223372036854775807):wrap64 n = n:=by unfold wrap64;omega
theorem at_refl:∀ (d k i:Nat) (x:List S107),i + d = x.length → d < k → x.length ≤ 9223372036854775807 → edit_At.l0 k x x (x.length:Int) (i:Int) = some true:=by
 intro d
 induction d with
 | zero=>
  intro k i x hi hk hx
  obtain ⟨k,rfl⟩:∃ k',k = k' + 1:=⟨k - 1,by omega⟩
  rw [edit_At.l0,if_neg (by omega)]
 | succ d ih=>
  intro k i x hi hk hx
  obtain ⟨k,rfl⟩:∃ k',k = k' + 1:=⟨k - 1,by omega⟩
  have h1:i < x.length:=by omega
  rw [edit_At.l0,if_pos (by omega),if_pos (by omega),if_pos (by omega),if_pos (by omega),rdw107 h1]
  rw [if_neg (by simp),wrapw (by omega) (by omega),show (i:Int) + 1 = ((i + 1:Nat):Int) by omega]
  exact ih k (i + 1) x (by omega) (by omega) hx
theorem editSame_refl (l:List S107) (hl:l.length ≤ 9223372036854775806):edit_Same.f (l.length + 2) 0 0 0 l [] 0 0 0 l [] = some true:=by
 unfold edit_Same.f
 have hA:edit_At.f (l.length + 2) l l = some true:=by
  unfold edit_At.f
  rw [if_pos rfl]
  exact at_refl l.length (l.length + 2) 0 l (by omega) (by omega) (by omega)
 have hG:edit_Gone.f (l.length + 2) [] [] = some true:=by
  unfold edit_Gone.f
  rw [if_pos rfl]
  rw [show l.length + 2 = (l.length + 1) + 1 from rfl,edit_Gone.l0,if_neg (by simp)]
 rw [if_pos rfl,if_pos rfl,if_pos rfl,hA]
 simp only [Option.bind_some]
 rw [if_pos trivial,hG]
 rfl
end Go.Proofs.YteilnbnnhocciaaDoor.V
