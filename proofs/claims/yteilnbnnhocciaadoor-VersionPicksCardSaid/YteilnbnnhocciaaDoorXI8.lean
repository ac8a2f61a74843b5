/- VersionPicks (part 8 of 8; packed by program out of the texts named below) -/
import Derived.Test.YteilnbnnhocciaaDoorXI7
import Derived.Test.YteilnbnnhocciaaDoorTie
import Derived.Test.YteilnbnnhocciaaDoorCards
import Derived.SevenTiedAt

/-! V52 -/
set_option linter.unusedVariables false
set_option linter.unusedSimpArgs false
namespace Go.Proofs.YteilnbnnhocciaaDoor.V
open Go.Proofs Go.Sort Go.Lib Go.RowKit Go.BigFrame Go.Proofs.YteilnbnnhocciaaDoorM Go.Proofs.YteilnbnnhocciaaDoorW.PrintWords Go.Proofs.YteilnbnnhocciaaDoorW.PrintLast Go.Proofs.YteilnbnnhocciaaDoorW.PrintMore Go.Proofs.YteilnbnnhocciaaDoor.KV
def RpPost (w:World) (lv:Nat) (F:Nat → List FileV) (x0:FileV) (e:Ending) (w':World):Prop:=
 ∃ T vU vL,Grow (F lv) x0 T ∧ (if lv = 0 then Shut (F lv) x0 T else T = [x0]) ∧ e = .returned (.tuple #[vU,vL,.bool true]) ∧ RowIs w' vU ((F lv).filter (fun f=>(nums T).contains f.num)) ∧ RowIs w' vL (over (F (lv + 1)) (loL T) (hiL T)) ∧ RowKit.Below w.heap.size w w'
theorem own_start (W:World) (x0:FileV):(W.alloc (.cells #[.int .u64 x0.num,.int .u64 x0.size,.int .u64 x0.count,.string x0.least,.string x0.most] 112)).ownsRow W.heap.size 112 5 (.slice (some ⟨W.heap.size,0,none⟩) 1 1) 1 (cellsF [x0]):=
 ⟨by rw [cellsF_one,encF_len],.inr ⟨W.heap.size,1,_,rfl,Nat.le_refl _,World.alloc_heap_new W _,Nat.le_refl _,by unfold maxLen;omega,rfl,rfl⟩⟩
def lenV:Value → Nat
 | .slice _ n _=>n
 | _=>0
def boolV:Value → Nat
 | .bool true=>1
 | _=>0
set_option maxHeartbeats 8000000 in
set_option maxRecDepth 100000 in
theorem refPick_on (lv:Nat) (hlv:lv < 3) (F:Nat → List FileV) (A:Nat → Option Addr) (c:Nat → Nat) (choice:Int) (x0:FileV) (w:World) (h:VerIn w F A c) (hl:∀ i,(F i).length ≤ 100000) (hnd:(nums (F lv)).Nodup) (h0:F lv ≠ []) (hx0:(F lv)[placeOf choice (F lv).length]? = some x0) :
  Calls Tryd.prog 41 #[.agg #[.slice (A 0) (F 0).length (c 0),.slice (A 1) (F 1).length (c 1),.slice (A 2) (F 2).length (c 2),.slice (A 3) (F 3).length (c 3)],.int .i64 lv,.int .i64 choice] w (RpPost w lv F x0):=by
 have mixed:Tryd.prog.follows .mixedOrders = true:=by kernel_rfl
 obtain ⟨i0,hi0,hz0,hz1,hz2⟩:=info_parts info112'
 obtain ⟨w1,hw1⟩:∃ w1,w1 = w.alloc (.cells #[.slice (A 0) (F 0).length (c 0),.slice (A 1) (F 1).length (c 1),.slice (A 2) (F 2).length (c 2),.slice (A 3) (F 3).length (c 3)] 83):=⟨_,rfl⟩
 have f1:Four w1 w.heap.size (fun i=>.slice (A i) (F i).length (c i)):=⟨83,by rw [hw1];exact World.alloc_heap_new w _⟩
 have b1:RowKit.Below w.heap.size w w1:=by rw [hw1];exact (RowKit.Below.refl _ _).alloc (Nat.le_refl _) _
 obtain ⟨X,hX⟩:∃ X,X = x0:=⟨_,rfl⟩
 rw [← hX]
 obtain ⟨L,hL⟩:∃ L,L = F lv:=⟨_,rfl⟩
 have hfv:=f1.cell lv (by omega)
 have hrow:=(h lv (by omega)).1.below b1
 rw [← hL] at hx0 h0 hrow hfv hnd
 have hmem:x0 ∈ L:=List.mem_of_getElem? hx0
 have hpos:0 < L.length:=List.length_pos_iff.2 h0
 obtain ⟨ad,hAd,hat⟩:=hrow hpos
 obtain ⟨i,hi⟩:∃ i,i = placeOf choice L.length:=⟨_,rfl⟩
 rw [← hi] at hx0
 have hin:i < L.length:=(List.getElem?_eq_some_iff.1 hx0).1
 have hx:=hat i x0 hx0
 rw [hAd] at hfv
 obtain ⟨n,hn⟩:∃ n,n = L.length:=⟨_,rfl⟩
 have hnl:n ≤ 100000:=by rw [hn,hL];exact hl lv
 have HAT:Hush (∀ (j:Nat) (x:FileV),L[j]? = some x → FileAt w1 (ad.add (j * 5)) x):=⟨hat⟩
 have HND:=Hush.mk hnd
 have HME:Hush (X ∈ L):=⟨by rw [hX];exact hmem⟩
 have HLV:=Hush.mk (And.intro hlv hL)
 have HN:=Hush.mk hn
 rw [← hn] at hfv hpos hin hi
 have hrem:IntKind.u64.wrap choice % (n:Int) = (i:Int):=by
  rw [hi]
  unfold placeOf
  have h1:0 ≤ IntKind.u64.wrap choice % (n:Int):=Int.emod_nonneg _ (by omega)
  omega
 have hnn:0 ≤ IntKind.u64.wrap choice:=by
  simp only [IntKind.wrap]
  exact Int.emod_nonneg _ (by decide)
 have hwn:IntKind.u64.wrap (n:Int) = (n:Int):=by
  have e:IntKind.u64.wrap (n:Int) = (n:Int) % 18446744073709551616:=rfl
  rw [e]
  omega
 have HGR:=Hush.mk (Grow.start L X)
 have HST:Hush (∀ W,W = w1.alloc (.cells #[.int .u64 x0.num,.int .u64 x0.size,.int .u64 x0.count,.string x0.least,.string x0.most] 112) → GwSt (w.heap.size + 1) w1 [X] (.slice (some ⟨w.heap.size + 1,0,none⟩) 1 1) W):=⟨fun W hW=>by
  have e:w.heap.size + 1 = w1.heap.size:=by rw [hw1,size_alloc]
  subst hW
  rw [hX,e]
  exact ⟨(RowKit.Below.refl _ _).alloc (Nat.le_refl _) _,own_start w1 x0⟩⟩
 clear hX
 obtain ⟨x00,x01,x02,x03,x04⟩:=x0
 simp only [FileAt] at hx
 obtain ⟨y0,y1,y2,y3,y4⟩:=hx
 have jt:(IntKind.u64.wrap choice).tmod (n:Int) = (i:Int):=by
  rw [← hrem,Int.tmod_eq_emod_of_nonneg hnn]
 have j0:(0:Int) ≤ (lv:Int):=by omega
 have j1:(lv:Int) < 4:=by omega
 have j4:¬ (lv:Int) < 0:=by omega
 have j5:decide ((lv:Int) < 0) = false:=decide_eq_false (by omega)
 have j6:decide (2 < (lv:Int)) = false:=by simpa using (by omega:¬ 2 < (lv:Int))
 have j7:((n:Int) == 0) = false:=by simpa using (by omega:¬ n = 0)
 have j8:(i:Int) < (n:Int):=by omega
 have j9:(0:Int) ≤ (i:Int):=by omega
 have j10:¬ (n:Int) = 0:=by omega
 have jw:IntKind.i64.wrap (i:Int) = (i:Int):=by rw [IntKind.wrap_i64];omega
 obtain ⟨g0,hg0⟩:∃ g:Bool,g = ((lv:Int) == 0):=⟨_,rfl⟩
 have HG0:=Hush.mk hg0
 have HV:Hush (VerIn w1 F A c ∧ Four w1 w.heap.size (fun i=>.slice (A i) (F i).length (c i))):=⟨h.below b1,f1⟩
 have HLL:=Hush.mk hl
 have HB1:=Hush.mk b1
 have HZ1:Hush (w1.heap.size = w.heap.size + 1):=⟨by rw [hw1,size_alloc]⟩
 rw [hw1] at hfv y0 y1 y2 y3 y4
 clear f1 b1 hat hL hAd hi hn h hl hnd hmem h0 hlv
 go_enter Tryd.func41,Tryd.ntmps41
 go_wp2_with fail
 rw [← hw1]
 generalize hw2:w1.alloc (.cells #[.int .u64 x00,.int .u64 x01,.int .u64 x02,.string x03,.string x04] 112) = w2
 have HS2:=Hush.mk (HST.out w2 hw2.symm)
 clear hw2 HST hfv y0 y1 y2 y3 y4 jt hrem hnn hwn hw1 hx0
 rw [← hg0]
 clear hg0
 go_loopw [10,11] (fun v10 v11 wr=>∃ (T:List FileV) (An:Option Addr) (nT cn:Nat) (g:Bool),v10 = .slice An nT cn ∧ v11 = .bool g ∧ Hush (nT = T.length ∧ GwSt (w.heap.size + 1) w1 T (.slice An nT cn) wr ∧ Grow L X T ∧ (lv ≠ 0 → g = false ∧ T = [X]) ∧ (lv = 0 → g = false → PassJ L T n false))) (fun v10 v11 _=>2 * (n + 1 - lenV v10) + boolV v11)
 case atStart=>
  refine ⟨[X],_,1,1,g0,rfl,rfl,⟨rfl,HS2.out,HGR.out,fun hz=>⟨?_,rfl⟩,fun hz hg=>?_⟩⟩
  ·rw [HG0.out];simpa using (by omega:¬ (lv:Int) = 0)
  ·rw [HG0.out,hz] at hg;cases hg
 case round=>
  obtain ⟨T,An,nT,cn,g,rfl,rfl,HT⟩:=hrel
  cases g with
  | false=>
   obtain ⟨w3,rfl⟩:∃ x,x = wr:=⟨wr,rfl⟩
   have hs1:w.heap.size + 1 ≤ w1.heap.size:=by have:=HZ1.out;omega
   have HFIN:Hush (if lv = 0 then Shut L X T else T = [X]):=⟨by
    split
    ·next hz=>exact HT.out.2.2.1.shut HND.out HME.out (by have:=HT.out.2.2.2.2 hz rfl;rw [HN.out] at this;exact this.all)
    ·next hz=>exact (HT.out.2.2.2.1 hz).2⟩
   have hn3:nT ≤ 100000:=by have:=HT.out.2.2.1.len HME.out;have:=HN.out;have:=HT.out.1;omega
   have HB13:Hush (RowKit.Below w1.heap.size w1 w3):=⟨by have:=HT.out.2.1.below;rwa [← HZ1.out] at this⟩
   have HROW:Hush (FilesAt w3 An T ∧ T.length ≤ cn):=⟨by
    obtain ⟨A',c',e,h1,h2⟩:=own112_files HT.out.2.1.own
    cases e
    exact ⟨h1,h2⟩⟩
   obtain ⟨pk,hpk⟩:∃ pk:FileV → Bool,pk = fun f=>(nums T).contains f.num:=⟨_,rfl⟩
   have HPK:=Hush.mk hpk
   have HHAS:Hush (∀ (f:FileV) W,RowKit.Below w3.heap.size w3 W → Calls Tryd.prog 92 #[.slice An nT cn,.int .u64 f.num] W fun e w'=>e = .returned (.bool (pk f)) ∧ RowKit.Below W.heap.size W w'):=⟨fun f W hW=>by
    have:=has_on An T cn f.num W (HROW.out.1.below hW) (by have:=HT.out.1;omega) HROW.out.2
    rw [hpk]
    rwa [← HT.out.1] at this⟩
   clear hpk
   go_wp2_with fail
   go_loopw [16,89] (fun v16 v89 wr=>∃ (k:Nat) (Ak:Option Addr) (nk ck:Nat),v16 = .slice Ak nk ck ∧ v89 = .int .i64 k ∧ k ≤ n ∧ Hush (RowKit.Below w3.heap.size w3 wr ∧ wr.ownsRow w3.heap.size 112 5 (.slice Ak nk ck) ((L.take k).filter pk).length (cellsF ((L.take k).filter pk)))) (fun _ v89 _=>n - (intOf v89).toNat)
   case atStart=>exact ⟨0,none,0,0,rfl,by go_num,by omega,⟨RowKit.Below.refl _ _,by rw [List.take_zero];exact ⟨rfl,.inl ⟨rfl,rfl⟩⟩⟩⟩
   case round=>
    obtain ⟨wk,rfl⟩:∃ x,x = wr:=⟨wr,rfl⟩
    obtain ⟨k,Ak,nk,ck,rfl,rfl,hk,HK⟩:=hrel
    by_cases hlt:k < n
    ·have hltz:(k:Int) < (n:Int):=by omega
     obtain ⟨f,hf⟩:∃ f,L[k]? = some f:=⟨_,List.getElem?_eq_getElem (by have:=HN.out;omega)⟩
     have hfx:=((HAT.out k f hf).below HB13.out).below HK.out.1
     have hov:=kept_snoc hf pk
     have hnn:=own_n HK.out.2
     have hn2:nk ≤ 100000:=by have h1:((L.take k).filter pk).length ≤ (L.take k).length:=List.length_filter_le _ _;rw [List.length_take] at h1;omega
     have HAN:=Hush.mk hnn
     have HSZ:Hush (w3.heap.size ≤ wk.heap.size):=⟨HK.out.1.size⟩
     have HKB:Hush (∀ o,RowKit.Below w3.heap.size w3 (wk.alloc o)):=⟨fun o=>HK.out.1.alloc HK.out.1.size o⟩
     obtain ⟨b,hb⟩:∃ b,b = pk f:=⟨_,rfl⟩
     have HCA:Hush (∀ W,RowKit.Below w3.heap.size w3 W → Calls Tryd.prog 92 #[.slice An nT cn,.int .u64 f.num] W fun e w'=>e = .returned (.bool b) ∧ RowKit.Below W.heap.size W w'):=⟨fun W hW=>by rw [hb];exact HHAS.out f W hW⟩
     cases b with
     | false=>
      have HNN:Hush (∀ wy,RowKit.Below wk.heap.size wk wy → RowKit.Below w3.heap.size w3 wy ∧ wy.ownsRow w3.heap.size 112 5 (.slice Ak nk ck) ((L.take (k + 1)).filter pk).length (cellsF ((L.take (k + 1)).filter pk))):=⟨fun wy hy=>⟨HK.out.1.trans (hy.mono HK.out.1.size),by rw [hov,← hb,if_neg (by simp),List.append_nil];exact ownsRow_keep HK.out.2 hy⟩⟩
      clear hf hov hnn hb
      obtain ⟨f0,f1,f2,f3,f4⟩:=f
      simp only [FileAt] at hfx
      obtain ⟨y0,y1,y2,y3,y4⟩:=hfx
      simp only at HCA
      go_wp2_with (go_at_call 92;refine (HCA.out _ (HKB.out _)).mono ?_;rintro e w5 ⟨rfl,hb5⟩;have HNX:=Hush.mk (HNN.out _ (((RowKit.Below.refl wk.heap.size wk).alloc (Nat.le_refl _) _).trans (hb5.mono (by rw [size_alloc];omega))));clear hb5)
      go_roundw
      case rel=>exact ⟨k + 1,Ak,nk,ck,rfl,by go_num,by omega,HNX⟩
      case measure=>simp [intOf];omega
     | true=>
      have HNN:Hush (∀ wy w9 v',RowKit.Below wk.heap.size wk wy → wy.grownBy w9 (Value.slice Ak nk ck).ownBlock → w9.ownsRow w3.heap.size 112 5 v' (nk + 1) (cellsF ((L.take k).filter pk) ++ encF f) → RowKit.Below w3.heap.size w3 w9 ∧ w9.ownsRow w3.heap.size 112 5 v' ((L.take (k + 1)).filter pk).length (cellsF ((L.take (k + 1)).filter pk))):=⟨fun wy w9 v' hy hg ho=>by
       refine ⟨(HK.out.1.trans (hy.mono HK.out.1.size)).grown hg (Nat.le_trans HK.out.1.size hy.size) (fun q hq=>(own_lt HK.out.2 hq).1),?_⟩
       rw [hov,← hb,if_pos rfl,cellsF_append,cellsF_one,List.length_append,List.length_singleton,← hnn]
       exact ho⟩
      clear hf hov hnn hb
      obtain ⟨f0,f1,f2,f3,f4⟩:=f
      simp only [FileAt] at hfx
      obtain ⟨y0,y1,y2,y3,y4⟩:=hfx
      simp only at HCA
      go_wp2_with (first
       | (go_at_call 92;refine (HCA.out _ (HKB.out _)).mono ?_;rintro e w5 ⟨rfl,hb5⟩;have HB5:Hush (RowKit.Below wk.heap.size wk w5):=⟨((RowKit.Below.refl wk.heap.size wk).alloc (Nat.le_refl _) _).trans (hb5.mono (by rw [size_alloc];omega))⟩;obtain ⟨d0,d1,d2,d3,d4⟩:=five_box wk _ _ _ _ _ 112 _ rfl hb5;have HBX:Hush (∀ o,RowKit.Below wk.heap.size wk (w5.alloc o)):=⟨fun o=>HB5.out.alloc HB5.out.size o⟩;have HOW:Hush (∀ o,(w5.alloc o).ownsRow w3.heap.size 112 5 (.slice Ak nk ck) nk (cellsF ((L.take k).filter pk))):=⟨fun o=>by have:=ownsRow_keep HK.out.2 (HBX.out o);rwa [← HAN.out] at this⟩;clear hb5)
       | (at_builtin;refine wpList_append_own_at _ rfl _ _ 80 rfl w3.heap.size 112 i0 (.agg #[.int .u64 0,.int .u64 0,.int .u64 0,.string ⟨#[]⟩,.string ⟨#[]⟩]) 5 56 Tryd.underlying80 hi0 hz0 hz1 hz2 rfl (by decide) (.slice Ak nk ck) _ _ rfl (HOW.out _) ⟨_,0,none⟩ 1 1 (encF ⟨f0,f1,f2,f3,f4⟩) rfl rfl (five_newb _ ⟨f0,f1,f2,f3,f4⟩ 112 _ rfl) (encF_one _) (by unfold maxLen;omega) (by omega) (by rw [size_alloc];have:=HSZ.out;have:=HB5.out.size;omega) ?_;intro v' w9 hown' hg' hnil hloc;obtain ⟨A9,c9,rfl⟩:=own_slice hown';have HNX:=Hush.mk (HNN.out _ w9 _ (HBX.out _) hg' hown');clear hown' hg' hnil hloc))
      go_roundw
      case rel=>exact ⟨k + 1,A9,_,c9,rfl,by go_num,by omega,HNX⟩
      case measure=>simp [intOf];omega
    ·obtain rfl:k = n:=by omega
     have HK2:=HK.out.2
     rw [show L.take k = L by rw [HN.out,List.take_length]] at HK2
     have HUP:=Hush.mk (own112_files HK2)
     clear HK2
     have hbk:RowKit.Below w1.heap.size w1 wk:=HB13.out.trans (HK.out.1.mono HB13.out.size)
     have hbd:RowKit.Below wk.heap.size wk wk.drew:=(RowKit.Below.refl _ _).drew
     have HSS:Hush (∀ W,RowKit.Below wk.heap.size wk W → (W.cell? ⟨w.heap.size,0,none⟩ = some (.slice (A 0) (F 0).length (c 0)) ∧ W.cell? ⟨w.heap.size,1,none⟩ = some (.slice (A 1) (F 1).length (c 1)) ∧ W.cell? ⟨w.heap.size,2,none⟩ = some (.slice (A 2) (F 2).length (c 2)) ∧ W.cell? ⟨w.heap.size,3,none⟩ = some (.slice (A 3) (F 3).length (c 3)))):=⟨fun W hW=>by
      have f:=(HV.out.2.below hbk).below hW
      exact ⟨f.cell 0 (by omega),f.cell 1 (by omega),f.cell 2 (by omega),f.cell 3 (by omega)⟩⟩
     have HS0:Hush (wk.drew.cell? ⟨w.heap.size,0,none⟩ = some (.slice (A 0) (F 0).length (c 0)) ∧ wk.drew.cell? ⟨w.heap.size,1,none⟩ = some (.slice (A 1) (F 1).length (c 1)) ∧ wk.drew.cell? ⟨w.heap.size,2,none⟩ = some (.slice (A 2) (F 2).length (c 2)) ∧ wk.drew.cell? ⟨w.heap.size,3,none⟩ = some (.slice (A 3) (F 3).length (c 3))):=⟨HSS.out _ hbd⟩
     obtain ⟨lo,hlo⟩:∃ s,s = loL T:=⟨_,rfl⟩
     obtain ⟨hi,hhi⟩:∃ s,s = hiL T:=⟨_,rfl⟩
     have HC:Hush (Calls Tryd.prog 94 #[.slice An nT cn] wk.drew fun e w'=>e = .returned (.string lo) ∧ Hush (w'.cell? ⟨w.heap.size,0,none⟩ = some (.slice (A 0) (F 0).length (c 0)) ∧ w'.cell? ⟨w.heap.size,1,none⟩ = some (.slice (A 1) (F 1).length (c 1)) ∧ w'.cell? ⟨w.heap.size,2,none⟩ = some (.slice (A 2) (F 2).length (c 2)) ∧ w'.cell? ⟨w.heap.size,3,none⟩ = some (.slice (A 3) (F 3).length (c 3))) ∧
       Hush (Calls Tryd.prog 95 #[.slice An nT cn] w' fun e w''=>e = .returned (.string hi) ∧ Hush (w''.cell? ⟨w.heap.size,0,none⟩ = some (.slice (A 0) (F 0).length (c 0)) ∧ w''.cell? ⟨w.heap.size,1,none⟩ = some (.slice (A 1) (F 1).length (c 1)) ∧ w''.cell? ⟨w.heap.size,2,none⟩ = some (.slice (A 2) (F 2).length (c 2)) ∧ w''.cell? ⟨w.heap.size,3,none⟩ = some (.slice (A 3) (F 3).length (c 3))) ∧
       Hush (Calls Tryd.prog 96 #[.agg #[.slice (A 0) (F 0).length (c 0),.slice (A 1) (F 1).length (c 1),.slice (A 2) (F 2).length (c 2),.slice (A 3) (F 3).length (c 3)],.int .i64 (IntKind.i64.wrap ((lv:Int) + 1)),.string lo,.string hi] w'' fun e w8=>∃ B m d,e = .returned (.slice B m d) ∧ Hush (w8.cell? ⟨w.heap.size,0,none⟩ = some (.slice (A 0) (F 0).length (c 0)) ∧ w8.cell? ⟨w.heap.size,1,none⟩ = some (.slice (A 1) (F 1).length (c 1)) ∧ w8.cell? ⟨w.heap.size,2,none⟩ = some (.slice (A 2) (F 2).length (c 2)) ∧ w8.cell? ⟨w.heap.size,3,none⟩ = some (.slice (A 3) (F 3).length (c 3))) ∧
       Hush (RowIs w8 (.slice Ak nk ck) (L.filter pk) ∧ RowIs w8 (.slice B m d) (over (F (lv + 1)) lo hi) ∧ RowKit.Below w.heap.size w w8)))):=⟨by
      have h1:=least_on An T cn wk.drew ((HROW.out.1.below HK.out.1).below hbd) HT.out.2.2.1.ne (by have:=HT.out.1;omega) HROW.out.2
      rw [← HT.out.1,← hlo] at h1
      refine h1.mono fun e w' ⟨e1,hb1⟩=>⟨e1,?_⟩
      have hb1':RowKit.Below wk.heap.size wk w':=hbd.trans (hb1.mono hbd.size)
      refine ⟨⟨HSS.out _ hb1'⟩,⟨?_⟩⟩
      have h2:=most_on An T cn w' ((HROW.out.1.below HK.out.1).below hb1') HT.out.2.2.1.ne (by have:=HT.out.1;omega) HROW.out.2
      rw [← HT.out.1,← hhi] at h2
      refine h2.mono fun e w'' ⟨e2,hb2⟩=>⟨e2,?_⟩
      have hb2':RowKit.Below wk.heap.size wk w'':=hb1'.trans (hb2.mono hb1'.size)
      refine ⟨⟨HSS.out _ hb2'⟩,⟨?_⟩⟩
      have h3:=refOverlap_on (lv + 1) (by have:=HLV.out.1;omega) lo hi F A c w'' ((HV.out.1.below hbk).below hb2') (HLL.out _)
      rw [show ((lv + 1:Nat):Int) = IntKind.i64.wrap ((lv:Int) + 1) by rw [IntKind.wrap_i64];omega] at h3
      refine h3.mono fun e w8 ⟨⟨v,e3,hR⟩,hb3⟩=>?_
      have hb3':RowKit.Below wk.heap.size wk w8:=hb2'.trans (hb3.mono hb2'.size)
      obtain ⟨B,d,e4,hR1,hR2⟩:=hR
      exact ⟨B,_,d,by rw [e3,e4],⟨HSS.out _ hb3'⟩,⟨HUP.out.below hb3',⟨B,d,rfl,hR1,hR2⟩,HB1.out.trans ((hbk.trans (hb3'.mono hbk.size)).mono HB1.out.size)⟩⟩⟩
     have HLH:=Hush.mk (And.intro hlo hhi)
     clear hlo hhi hbk hbd
     go_wp2_with fail
     go_region_held3 (fun w'=>w'.cell? ⟨w.heap.size,0,none⟩ = some (.slice (A 0) (F 0).length (c 0)) ∧ w'.cell? ⟨w.heap.size,1,none⟩ = some (.slice (A 1) (F 1).length (c 1)) ∧ w'.cell? ⟨w.heap.size,2,none⟩ = some (.slice (A 2) (F 2).length (c 2)) ∧ w'.cell? ⟨w.heap.size,3,none⟩ = some (.slice (A 3) (F 3).length (c 3))) (first | with_reducible exact HS0.out | with_reducible exact HS5.out | with_reducible exact HS6.out | with_reducible exact HS7.out)
      ((first | (go_at_call 94;refine HC.out.mono ?_;rintro e w5 ⟨rfl,HS5,HC5⟩) | (go_at_call 95;refine HC5.out.mono ?_;rintro e w6 ⟨rfl,HS6,HC6⟩) | (go_at_call 96;refine HC6.out.mono ?_;rintro e w8 ⟨B,mB,dB,rfl,HS7,HEND⟩)))
     go_wp2
     rw [HLH.out.1,HLH.out.2,HPK.out,HLV.out.2] at HEND
     exact bodyPost_ret (v:=.tuple #[.slice Ak nk ck,.slice B mB dB,.bool true]) (by simp [results,Tryd.results41,go_sem]) rfl ⟨T,_,_,by rw [← HLV.out.2];exact HT.out.2.2.1,by rw [← HLV.out.2];exact HFIN.out,rfl,HEND.out⟩
  | true=>
   go_wp2_with fail
   go_loopw [10,11,53] (fun v10 v11 v53 wq=>∃ (T2:List FileV) (Aq:Option Addr) (nq cq k:Nat) (g:Bool),v10 = .slice Aq nq cq ∧ v11 = .bool g ∧ v53 = .int .i64 k ∧ k ≤ n ∧ Hush (nq = T2.length ∧ GwSt (w.heap.size + 1) w1 T2 (.slice Aq nq cq) wq ∧ Grow L X T2 ∧ PassJ L T2 k g ∧ (g = false → nq = nT) ∧ (g = true → nT < nq))) (fun _ _ v53 _=>n - (intOf v53).toNat)
   case atStart=>exact ⟨T,An,nT,cn,0,false,rfl,rfl,by go_num,by omega,⟨HT.out.1,HT.out.2.1,HT.out.2.2.1,PassJ.start _ _ _,fun _=>rfl,fun h=>by cases h⟩⟩
   case round=>
    obtain ⟨wq,rfl⟩:∃ x,x = wr:=⟨wr,rfl⟩
    obtain ⟨T2,Aq,nq,cq,k,g,rfl,rfl,rfl,hk,HQ⟩:=hrel
    by_cases hlt:k < n
    ·have hltz:(k:Int) < (n:Int):=by omega
     obtain ⟨f,hf⟩:∃ f,L[k]? = some f:=⟨_,List.getElem?_eq_getElem (by have:=HN.out;omega)⟩
     have hfx:=(HAT.out k f hf).below (by have:=HQ.out.2.1.below;rwa [← HZ1.out] at this)
     have hsz:w.heap.size + 1 ≤ wq.heap.size:=by have:=HQ.out.2.1.below.size;have:=HZ1.out;omega
     have hq100:nq ≤ 100000:=by have:=HQ.out.2.2.1.len HME.out;have:=HN.out;have:=HQ.out.1;omega
     have HROW:Hush (FilesAt wq Aq T2 ∧ T2.length ≤ cq):=⟨by
      obtain ⟨A',c',e,h1,h2⟩:=own112_files HQ.out.2.1.own
      cases e
      exact ⟨h1,h2⟩⟩
     obtain ⟨hb,hhb⟩:∃ b,b = (nums T2).contains f.num:=⟨_,rfl⟩
     have HHAS:Hush (∀ W,RowKit.Below wq.heap.size wq W → Calls Tryd.prog 92 #[.slice Aq nq cq,.int .u64 f.num] W fun e w'=>e = .returned (.bool hb) ∧ RowKit.Below W.heap.size W w'):=⟨fun W hW=>by
      have:=has_on Aq T2 cq f.num W (HROW.out.1.below hW) (by have:=HQ.out.1;omega) HROW.out.2
      rwa [← HQ.out.1,← hhb] at this⟩
     have HF:=Hush.mk hf
     have HQB:Hush (∀ o,RowKit.Below wq.heap.size wq (wq.alloc o)):=⟨fun o=>(RowKit.Below.refl wq.heap.size wq).alloc (Nat.le_refl _) o⟩
     cases hb with
     | true=>
      have HP:Hush (PassJ L T2 (k + 1) g):=⟨HQ.out.2.2.2.1.next hf (.inl hhb.symm)⟩
      clear hhb hf
      obtain ⟨f0,f1,f2,f3,f4⟩:=f
      simp only [FileAt] at hfx
      obtain ⟨y0,y1,y2,y3,y4⟩:=hfx
      simp only at HHAS
      go_wp2_with (go_at_call 92;refine (HHAS.out _ (HQB.out _)).mono ?_;rintro e w5 ⟨rfl,hb5⟩;have HB5:=Hush.mk ((HQB.out _).trans (hb5.mono (by rw [size_alloc];omega)));clear hb5)
      go_roundw
      case rel=>exact ⟨T2,Aq,nq,cq,k + 1,g,rfl,rfl,by go_num,by omega,⟨HQ.out.1,HQ.out.2.1.step HB5.out (by have:=HZ1.out;omega),HQ.out.2.2.1,HP.out,HQ.out.2.2.2.2.1,HQ.out.2.2.2.2.2⟩⟩
      case measure=>simp [intOf];omega
     | false=>
      have HNB:=Hush.mk hhb
      clear hhb hf
      have hqpos:0 < nq:=by have:=HQ.out.1;have:=List.length_pos_iff.2 HQ.out.2.2.1.ne;omega
      obtain ⟨f',hf'⟩:∃ f',f' = f:=⟨_,rfl⟩
      have HF':=Hush.mk hf'
      rw [← hf'] at HF HNB
      clear HF'
      have HFF:=Hush.mk hf'
      clear hf'
      obtain ⟨f0,f1,f2,f3,f4⟩:=f
      simp only [FileAt] at hfx
      obtain ⟨y0,y1,y2,y3,y4⟩:=hfx
      simp only at HHAS
      go_wp2_with (go_at_call 92;refine (HHAS.out _ (HQB.out _)).mono ?_;rintro e w5 ⟨rfl,hb5⟩;have HB5:=Hush.mk ((HQB.out _).trans (hb5.mono (by rw [size_alloc];omega)));obtain ⟨d0,d1,d2,d3,d4⟩:=five_box wq _ _ _ _ _ 112 _ rfl hb5;have HD:=Hush.mk (And.intro d0 (And.intro d1 (And.intro d2 (And.intro d3 d4))));clear hb5 d0 d1 d2 d3 d4)
      clear y0 y1 y2 y3 y4
      go_loopw [10,11,63] (fun v10 v11 v63 wz=>∃ m:Nat,v10 = .slice Aq nq cq ∧ v11 = .bool g ∧ v63 = .int .i64 m ∧ m ≤ nq ∧ Hush (RowKit.Below w5.heap.size w5 wz ∧ (m = 0 ∨ touchB (loL T2) (hiL T2) f' = false))) (fun _ _ v63 _=>nq - (intOf v63).toNat)
      case atStart=>exact ⟨0,rfl,rfl,by go_num,by omega,⟨RowKit.Below.refl _ _,.inl rfl⟩⟩
      case round=>
       obtain ⟨wz,rfl⟩:∃ x,x = wr:=⟨wr,rfl⟩
       obtain ⟨m,rfl,rfl,rfl,hm,HM⟩:=hrel
       by_cases hmt:m < nq
       ·have hmtz:(m:Int) < (nq:Int):=by omega
        obtain ⟨x,hx⟩:∃ x,T2[m]? = some x:=⟨_,List.getElem?_eq_getElem (by have:=HQ.out.1;omega)⟩
        have HB6:Hush (RowKit.Below wq.heap.size wq wz):=⟨HB5.out.trans (HM.out.1.mono HB5.out.size)⟩
        obtain ⟨ad2,hAd2,hat2⟩:=HROW.out.1 (by have:=HQ.out.1;omega)
        have hxx:=(hat2 m x hx).below HB6.out
        have HXM:Hush (x ∈ T2):=⟨List.mem_of_getElem? hx⟩
        obtain ⟨b1,hb1⟩:∃ b,b = touchB x.least x.most f':=⟨_,rfl⟩
        obtain ⟨b2,hb2⟩:∃ b,b = touchB (loL T2) (hiL T2) f':=⟨_,rfl⟩
        obtain ⟨lo,hlo⟩:∃ s,s = loL T2:=⟨_,rfl⟩
        obtain ⟨hi,hhi⟩:∃ s,s = hiL T2:=⟨_,rfl⟩
        have HT1:Hush (∀ W,Calls Tryd.prog 93 #[fileVal f',.string x.least,.string x.most] W fun e w'=>e = .returned (.bool b1) ∧ RowKit.Below W.heap.size W w'):=⟨fun W=>by rw [hb1];exact touch_on f' x.least x.most W⟩
        have HT2:Hush (∀ W,Calls Tryd.prog 93 #[fileVal f',.string lo,.string hi] W fun e w'=>e = .returned (.bool b2) ∧ RowKit.Below W.heap.size W w'):=⟨fun W=>by rw [hb2,hlo,hhi];exact touch_on f' _ _ W⟩
        have HLO:Hush (∀ W,RowKit.Below wq.heap.size wq W → Calls Tryd.prog 94 #[.slice (some ad2) nq cq] W fun e w'=>e = .returned (.string lo) ∧ RowKit.Below W.heap.size W w'):=⟨fun W hW=>by
         have:=least_on Aq T2 cq W (HROW.out.1.below hW) HQ.out.2.2.1.ne (by have:=HQ.out.1;omega) HROW.out.2
         rwa [← HQ.out.1,← hlo,hAd2] at this⟩
        have HHI:Hush (∀ W,RowKit.Below wq.heap.size wq W → Calls Tryd.prog 95 #[.slice (some ad2) nq cq] W fun e w'=>e = .returned (.string hi) ∧ RowKit.Below W.heap.size W w'):=⟨fun W hW=>by
         have:=most_on Aq T2 cq W (HROW.out.1.below hW) HQ.out.2.2.1.ne (by have:=HQ.out.1;omega) HROW.out.2
         rwa [← HQ.out.1,← hhi,hAd2] at this⟩
        have HADD:Hush (b1 = true ∨ b2 = true → Grow L X (T2 ++ [f'])):=⟨fun hb=>HQ.out.2.2.1.add (List.mem_of_getElem? HF.out) HNB.out.symm (hb.imp (fun e=>⟨x,HXM.out,by rw [← hb1];exact e⟩) (fun e=>by rw [← hb2];exact e))⟩
        have HNO:Hush (b2 = false → touchB (loL T2) (hiL T2) f' = false):=⟨fun e=>by rw [← hb2];exact e⟩
        have HGW:Hush (∀ wy w9 v',RowKit.Below wq.heap.size wq wy → wy.grownBy w9 (Value.slice (some ad2) nq cq).ownBlock → w9.ownsRow (w.heap.size + 1) 112 5 v' (nq + 1) (cellsF T2 ++ encF f') → GwSt (w.heap.size + 1) w1 (T2 ++ [f']) v' w9):=⟨fun wy w9 v' hy hg ho=>by
         have hst:=HQ.out.2.1
         rw [hAd2] at hst
         have hs1:w.heap.size + 1 ≤ w1.heap.size:=by have:=HZ1.out;omega
         refine ⟨(hst.step hy hs1).below.grown hg (Nat.le_trans hsz hy.size) (fun q hq=>(own_lt hst.own hq).1),?_⟩
         rw [cellsF_append,cellsF_one,List.length_append,List.length_singleton,← HQ.out.1]
         exact ho⟩
        have HOWN:Hush (∀ W,RowKit.Below wq.heap.size wq W → W.ownsRow (w.heap.size + 1) 112 5 (.slice (some ad2) nq cq) nq (cellsF T2)):=⟨fun W hW=>by
         have:=ownsRow_keep HQ.out.2.1.own hW
         rwa [hAd2,← HQ.out.1] at this⟩
        have HSZ:Hush (wq.heap.size ≤ wz.heap.size ∧ w.heap.size + 1 ≤ wq.heap.size):=⟨⟨HB6.out.size,hsz⟩⟩
        rw [HFF.out] at HT1 HT2
        clear hb1 hb2 hlo hhi hat2 hx
        subst hAd2
        obtain ⟨x0,x1,x2,x3,x4⟩:=x
        simp only [FileAt] at hxx
        obtain ⟨z0,z1,z2,z3,z4⟩:=hxx
        obtain ⟨d0,d1,d2,d3,d4⟩:=HD.out
        have d0:=(HM.out.1.cell (World.block_lt_of_cell? _ _ d0)).trans d0
        have d1:=(HM.out.1.cell (World.block_lt_of_cell? _ _ d1)).trans d1
        have d2:=(HM.out.1.cell (World.block_lt_of_cell? _ _ d2)).trans d2
        have d3:=(HM.out.1.cell (World.block_lt_of_cell? _ _ d3)).trans d3
        have d4:=(HM.out.1.cell (World.block_lt_of_cell? _ _ d4)).trans d4
        simp only [fileVal,fileCells] at HT1 HT2
        have five:=five_box wz (.int .u64 x0) (.int .u64 x1) (.int .u64 x2) (.string x3) (.string x4) 112 _ rfl (RowKit.Below.refl _ _)
        have e3:=five.2.2.2.1
        have e4:=five.2.2.2.2
        clear five
        have hbz:RowKit.Below wz.heap.size wz (wz.alloc (.cells #[.int .u64 x0,.int .u64 x1,.int .u64 x2,.string x3,.string x4] 112)):=(RowKit.Below.refl wz.heap.size wz).alloc (Nat.le_refl _) _
        have c0:=(hbz.cell (World.block_lt_of_cell? _ _ d0)).trans d0
        have c1:=(hbz.cell (World.block_lt_of_cell? _ _ d1)).trans d1
        have c2:=(hbz.cell (World.block_lt_of_cell? _ _ d2)).trans d2
        have c3:=(hbz.cell (World.block_lt_of_cell? _ _ d3)).trans d3
        have c4:=(hbz.cell (World.block_lt_of_cell? _ _ d4)).trans d4
        have HB7:Hush (RowKit.Below wq.heap.size wq (wz.alloc (.cells #[.int .u64 x0,.int .u64 x1,.int .u64 x2,.string x3,.string x4] 112))):=⟨HB6.out.trans (hbz.mono HB6.out.size)⟩
        have HB8:Hush (RowKit.Below w5.heap.size w5 (wz.alloc (.cells #[.int .u64 x0,.int .u64 x1,.int .u64 x2,.string x3,.string x4] 112))):=⟨HM.out.1.trans (hbz.mono HM.out.1.size)⟩
        clear hbz d0 d1 d2 d3 d4
        go_wp2_with fail
        clear z0 z1 z2 z3 z4
        obtain ⟨xb,hxb⟩:∃ xb,xb = wz.heap.size:=⟨_,rfl⟩
        have HXB:=Hush.mk hxb
        generalize hw7:wz.alloc (.cells #[.int .u64 x0,.int .u64 x1,.int .u64 x2,.string x3,.string x4] 112) = w7 at c0 c1 c2 c3 c4 e3 e4 HB7 HB8 ⊢
        rw [← hxb] at e3 e4 ⊢
        clear hxb hw7
        have c0:=below_cell c0
        have c1:=below_cell c1
        have c2:=below_cell c2
        have c3:=below_cell c3
        have c4:=below_cell c4
        have e3:=below_cell e3
        have e4:=below_cell e4
        have HPB:Hush (∀ p:BelowBy w7,RowKit.Below wq.heap.size wq p.wr):=⟨fun p=>HB7.out.trans (p.h.mono HB7.out.size)⟩
        cases b1 with
        | true=>
         refine wp_region_quiet_below mixed (by kernel_rfl) ?_
         repeat (go_big_quiet_step (first | (go_at_call 93;first | with_reducible exact Calls.below_of (HT1.out _) | with_reducible exact Calls.below_of (HT2.out _)) | (go_at_call 94;exact Calls.below_of (HLO.out _ (HPB.out _))) | (go_at_call 95;exact Calls.below_of (HHI.out _ (HPB.out _)))))
         refine wpQuiet_nil ?_
         intro _ hw'
         obtain ⟨p,hw''⟩:=hw'
         subst hw''
         have HGR2:=HADD.out (by simp)
         have hsz7:Hush (w.heap.size + 1 ≤ p.wr.heap.size):=⟨Nat.le_trans HSZ.out.2 (HPB.out p).size⟩
         clear e3 e4
         have c0:=c0 p
         have c1:=c1 p
         have c2:=c2 p
         have c3:=c3 p
         have c4:=c4 p
         have HBX:Hush (∀ o,RowKit.Below wq.heap.size wq (p.wr.alloc o)):=⟨fun o=>(HPB.out p).alloc (HPB.out p).size o⟩
         go_wp2_with (at_builtin;refine wpList_append_own_at _ rfl _ _ 80 rfl (w.heap.size + 1) 112 i0 (.agg #[.int .u64 0,.int .u64 0,.int .u64 0,.string ⟨#[]⟩,.string ⟨#[]⟩]) 5 56 Tryd.underlying80 hi0 hz0 hz1 hz2 rfl (by decide) (.slice (some ad2) nq cq) _ _ rfl (HOWN.out _ (HBX.out _)) ⟨_,0,none⟩ 1 1 (encF ⟨f0,f1,f2,f3,f4⟩) rfl rfl (five_newb _ ⟨f0,f1,f2,f3,f4⟩ 112 _ rfl) (encF_one _) (by unfold maxLen;omega) (by omega) (by rw [size_alloc];have:=hsz7.out;omega) ?_;intro v' w9 hown' hg' hnil hloc;obtain ⟨A9,c9,rfl⟩:=own_slice hown';have HNX:=Hush.mk (HGW.out _ w9 _ (HBX.out _) hg' (by rw [HFF.out];exact hown'));clear hown' hg' hnil hloc)
         go_roundw
         case rel=>exact ⟨T2 ++ [f'],A9,nq + 1,c9,k + 1,true,rfl,rfl,by go_num,by omega,⟨by rw [List.length_append,List.length_singleton,← HQ.out.1],HNX.out,HGR2,PassJ.turned _ _ _,fun e=>(by cases e),fun _=>by
          cases g with
          | true=>have:=HQ.out.2.2.2.2.2 rfl;omega
          | false=>have:=HQ.out.2.2.2.2.1 rfl;omega⟩⟩
         case measure=>simp [intOf];omega
        | false=>
         cases b2 with
         | true=>
          refine wp_region_quiet_below mixed (by kernel_rfl) ?_
          repeat (go_big_quiet_step (first | (go_at_call 93;first | with_reducible exact Calls.below_of (HT1.out _) | with_reducible exact Calls.below_of (HT2.out _)) | (go_at_call 94;exact Calls.below_of (HLO.out _ (HPB.out _))) | (go_at_call 95;exact Calls.below_of (HHI.out _ (HPB.out _)))))
          refine wpQuiet_nil ?_
          intro _ hw'
          obtain ⟨p,hw''⟩:=hw'
          subst hw''
          have HGR2:=HADD.out (by simp)
          have hsz7:Hush (w.heap.size + 1 ≤ p.wr.heap.size):=⟨Nat.le_trans HSZ.out.2 (HPB.out p).size⟩
          clear e3 e4
          have c0:=c0 p
          have c1:=c1 p
          have c2:=c2 p
          have c3:=c3 p
          have c4:=c4 p
          have HBX:Hush (∀ o,RowKit.Below wq.heap.size wq (p.wr.alloc o)):=⟨fun o=>(HPB.out p).alloc (HPB.out p).size o⟩
          go_wp2_with (at_builtin;refine wpList_append_own_at _ rfl _ _ 80 rfl (w.heap.size + 1) 112 i0 (.agg #[.int .u64 0,.int .u64 0,.int .u64 0,.string ⟨#[]⟩,.string ⟨#[]⟩]) 5 56 Tryd.underlying80 hi0 hz0 hz1 hz2 rfl (by decide) (.slice (some ad2) nq cq) _ _ rfl (HOWN.out _ (HBX.out _)) ⟨_,0,none⟩ 1 1 (encF ⟨f0,f1,f2,f3,f4⟩) rfl rfl (five_newb _ ⟨f0,f1,f2,f3,f4⟩ 112 _ rfl) (encF_one _) (by unfold maxLen;omega) (by omega) (by rw [size_alloc];have:=hsz7.out;omega) ?_;intro v' w9 hown' hg' hnil hloc;obtain ⟨A9,c9,rfl⟩:=own_slice hown';have HNX:=Hush.mk (HGW.out _ w9 _ (HBX.out _) hg' (by rw [HFF.out];exact hown'));clear hown' hg' hnil hloc)
          go_roundw
          case rel=>exact ⟨T2 ++ [f'],A9,nq + 1,c9,k + 1,true,rfl,rfl,by go_num,by omega,⟨by rw [List.length_append,List.length_singleton,← HQ.out.1],HNX.out,HGR2,PassJ.turned _ _ _,fun e=>(by cases e),fun _=>by
          cases g with
           | true=>have:=HQ.out.2.2.2.2.2 rfl;omega
           | false=>have:=HQ.out.2.2.2.2.1 rfl;omega⟩⟩
          case measure=>simp [intOf];omega
         | false=>
          refine wp_region_quiet_below mixed (by kernel_rfl) ?_
          repeat (go_big_quiet_step (first | (go_at_call 93;first | with_reducible exact Calls.below_of (HT1.out _) | with_reducible exact Calls.below_of (HT2.out _)) | (go_at_call 94;exact Calls.below_of (HLO.out _ (HPB.out _))) | (go_at_call 95;exact Calls.below_of (HHI.out _ (HPB.out _)))))
          refine wpQuiet_nil ?_
          intro _ hw'
          obtain ⟨p,hw''⟩:=hw'
          subst hw''
          clear c0 c1 c2 c3 c4 e3 e4
          go_wp2
          go_roundw
          case rel=>exact ⟨m + 1,rfl,rfl,by go_num,by omega,⟨HB8.out.trans (p.h.mono HB8.out.size),.inr (HNO.out rfl)⟩⟩
          case measure=>simp [intOf];omega
       ·obtain rfl:m = nq:=by omega
        have HP:Hush (PassJ L T2 (k + 1) g):=⟨HQ.out.2.2.2.1.next HF.out (.inr (HM.out.2.resolve_left (by omega)))⟩
        have HB6:Hush (RowKit.Below wq.heap.size wq wz):=⟨HB5.out.trans (HM.out.1.mono HB5.out.size)⟩
        go_wp2_with fail
        go_roundw
        case rel=>exact ⟨T2,Aq,m,cq,k + 1,g,rfl,rfl,by go_num,by omega,⟨HQ.out.1,HQ.out.2.1.step HB6.out (by have:=HZ1.out;omega),HQ.out.2.2.1,HP.out,HQ.out.2.2.2.2.1,HQ.out.2.2.2.2.2⟩⟩
        case measure=>simp [intOf];omega
    ·obtain rfl:k = n:=by omega
     have hlen:nq ≤ k:=by have:=HQ.out.2.2.1.len HME.out;have:=HN.out;have:=HQ.out.1;omega
     go_wp2_with fail
     go_roundw
     case rel=>exact ⟨T2,Aq,nq,cq,g,rfl,rfl,⟨HQ.out.1,HQ.out.2.1,HQ.out.2.2.1,fun hz=>(by have:=(HT.out.2.2.2.1 hz).1;cases this),fun hz hg=>by have:=HQ.out.2.2.2.1;rwa [hg] at this⟩⟩
     case measure=>
      cases g with
      | true=>have:=HQ.out.2.2.2.2.2 rfl;simp [lenV,boolV];omega
      | false=>have:=HQ.out.2.2.2.2.1 rfl;simp [lenV,boolV];omega
end Go.Proofs.YteilnbnnhocciaaDoor.V

/-! V53 -/
set_option linter.unusedVariables false
set_option linter.unusedSimpArgs false
namespace Go.Proofs.YteilnbnnhocciaaDoor.V
open Go.Proofs Go.Sort Go.Lib Go.RowKit Go.BigFrame Go.Proofs.YteilnbnnhocciaaDoorM Go.Proofs.YteilnbnnhocciaaDoorW.PrintWords Go.Proofs.YteilnbnnhocciaaDoorW.PrintLast Go.Proofs.YteilnbnnhocciaaDoorW.PrintMore Go.Proofs.YteilnbnnhocciaaDoor.KV
theorem picks_same {lv:Nat} {L U T:List FileV} {x0:FileV} (hn:(nums L).Nodup) (h0:x0 ∈ L) (hU:PickUp lv L x0 U) (hT:if lv = 0 then Shut L x0 T else T = [x0]) :
  L.filter (fun f=>(nums T).contains f.num) = U ∧ loL T = loL U ∧ hiL T = hiL U:=by
 unfold PickUp at hU
 split at hU
 ·next hz=>
  rw [if_pos hz] at hT
  exact shut_same hn h0 hU.1 hT hU.2
 ·next hz=>
  rw [if_neg hz] at hT
  subst hU hT
  exact ⟨filter_nums (List.singleton_sublist.2 h0) hn,rfl,rfl⟩
set_option maxHeartbeats 8000000 in
set_option maxRecDepth 100000 in
theorem refPick_none (F:Nat → List FileV) (A:Nat → Option Addr) (c:Nat → Nat) (level choice:Int) (w:World) (hn:noPick F level) :
  Calls Tryd.prog 41 #[.agg #[.slice (A 0) (F 0).length (c 0),.slice (A 1) (F 1).length (c 1),.slice (A 2) (F 2).length (c 2),.slice (A 3) (F 3).length (c 3)],.int .i64 level,.int .i64 choice] w fun e w'=>e = .returned (.tuple #[.slice none 0 0,.slice none 0 0,.bool false]) ∧ RowKit.Below w.heap.size w w':=by
 have HB:Hush (∀ o,RowKit.Below w.heap.size w (w.alloc o)):=⟨fun o=>(RowKit.Below.refl _ _).alloc (Nat.le_refl _) o⟩
 have f1:Four (w.alloc (.cells #[.slice (A 0) (F 0).length (c 0),.slice (A 1) (F 1).length (c 1),.slice (A 2) (F 2).length (c 2),.slice (A 3) (F 3).length (c 3)] 83)) w.heap.size (fun i=>.slice (A i) (F i).length (c i)):=⟨83,World.alloc_heap_new w _⟩
 by_cases h1:level < 0
 ·have h1b:decide (level < 0) = true:=by simpa using h1
  clear f1
  go_enter Tryd.func41,Tryd.ntmps41
  go_wp2
  exact bodyPost_ret (v:=.tuple #[.slice none 0 0,.slice none 0 0,.bool false]) (by simp [results,Tryd.results41,go_sem]) rfl ⟨rfl,HB.out _⟩
 ·have h1b:decide (level < 0) = false:=by simpa using h1
  by_cases h2:3 ≤ level
  ·have h2b:decide (2 < level) = true:=by simpa using (by omega:2 < level)
   clear f1
   go_enter Tryd.func41,Tryd.ntmps41
   go_wp2
   exact bodyPost_ret (v:=.tuple #[.slice none 0 0,.slice none 0 0,.bool false]) (by simp [results,Tryd.results41,go_sem]) rfl ⟨rfl,HB.out _⟩
  ·obtain ⟨lv,rfl⟩:∃ lv:Nat,level = (lv:Int):=⟨level.toNat,by omega⟩
   have hlv:lv < 3:=by omega
   have hF:F lv = []:=by rcases hn with h | h | h <;> first | omega | simpa using h
   have hz:(F lv).length = 0:=by rw [hF];rfl
   have hc:=f1.cell lv (by omega)
   simp only [hz] at hc
   have j1:(lv:Int) < 4:=by omega
   have j2:¬ (2:Int) < (lv:Int):=by omega
   have j0:(0:Int) ≤ (lv:Int):=by omega
   have h2b:decide (2 < (lv:Int)) = false:=by simpa using j2
   clear hn hF hz f1
   go_enter Tryd.func41,Tryd.ntmps41
   go_wp2
   exact bodyPost_ret (v:=.tuple #[.slice none 0 0,.slice none 0 0,.bool false]) (by simp [results,Tryd.results41,go_sem]) rfl ⟨rfl,HB.out _⟩
end Go.Proofs.YteilnbnnhocciaaDoor.V

/-! V54 -/
set_option linter.unusedVariables false
set_option linter.unusedSimpArgs false
namespace Go.Proofs.YteilnbnnhocciaaDoor.V
open Go.Proofs Go.Sort Go.Lib Go.RowKit Go.BigFrame Go.Proofs.YteilnbnnhocciaaDoorM Go.Proofs.YteilnbnnhocciaaDoorW.PrintWords Go.Proofs.YteilnbnnhocciaaDoorW.PrintLast Go.Proofs.YteilnbnnhocciaaDoorW.PrintMore Go.Proofs.YteilnbnnhocciaaDoor.KV
theorem okB_le {lv:Int} {f:FileV} (h:okB lv f = true):leB f.least f.most = true:=by
 simp only [okB,decide_eq_true_eq] at h
 unfold edit_wrong.val at h
 unfold leB
 repeat (split at h <;> first | (cases h;done) | skip)
 all_goals simp_all
theorem pickUp_one {lv:Nat} {L U up:List FileV} {x0:FileV} (hn:(nums L).Nodup) (h0:x0 ∈ L) (hU:PickUp lv L x0 U) (hu:PickUp lv L x0 up):up = U:=by
 unfold PickUp at hU hu
 split at hU
 ·next hz=>
  rw [if_pos hz] at hu
  have h1:=(shut_same hn h0 hU.1 hu.1 hU.2).1
  rw [filter_nums hu.2 hn] at h1
  exact h1
 ·next hz=>
  rw [if_neg hz] at hu
  rw [hu,hU]
theorem pickUp_there {lv:Nat} {L:List FileV} {x0:FileV} (hl:∀ f ∈ L,leB f.least f.most = true) (h0:x0 ∈ L):∃ U,PickUp lv L x0 U ∧ U.Sublist L:=by
 by_cases hz:lv = 0
 ·obtain ⟨h1,h2⟩:=growC_shut hl L.length [x0] (Way.one hl h0) (by omega)
  exact ⟨growC L L.length [x0],by unfold PickUp;rw [if_pos hz];exact ⟨h1,h2.part⟩,h2.part⟩
 ·exact ⟨[x0],by unfold PickUp;rw [if_neg hz],List.singleton_sublist.2 h0⟩
theorem picks_any (F:Nat → List FileV) (m:Nat) (hG:GoodF F m) (hm:m ≤ 100000) (level choice:Int):∃ (has:Bool) (pl:Int) (UP LOW:List FileV),UP.length ≤ 100000 ∧ LOW.length ≤ 100000 ∧ (has = true → pl = level) ∧
  (∀ (A:Nat → Option Addr) (c:Nat → Nat) (w:World),VerIn w F A c → Calls Tryd.prog 40 #[.agg #[.slice (A 0) (F 0).length (c 0),.slice (A 1) (F 1).length (c 1),.slice (A 2) (F 2).length (c 2),.slice (A 3) (F 3).length (c 3)],.int .i64 level,.int .i64 choice] w fun e w'=>∃ B d B' d',e = .returned (.tuple #[.agg #[.int .i64 pl,.slice B UP.length d,.slice B' LOW.length d'],.bool has]) ∧ RowIs w' (.slice B UP.length d) UP ∧ RowIs w' (.slice B' LOW.length d') LOW ∧ RowKit.Below w.heap.size w w') ∧
  (∀ (A:Nat → Option Addr) (c:Nat → Nat) (w:World),VerIn w F A c → Calls Tryd.prog 41 #[.agg #[.slice (A 0) (F 0).length (c 0),.slice (A 1) (F 1).length (c 1),.slice (A 2) (F 2).length (c 2),.slice (A 3) (F 3).length (c 3)],.int .i64 level,.int .i64 choice] w fun e w'=>∃ B d B' d',e = .returned (.tuple #[.slice B UP.length d,.slice B' LOW.length d',.bool has]) ∧ RowIs w' (.slice B UP.length d) UP ∧ RowIs w' (.slice B' LOW.length d') LOW ∧ RowKit.Below w.heap.size w w'):=by
 have nilRow:∀ w,RowIs w (.slice none 0 0) []:=fun w=>⟨none,0,rfl,fun h=>by simp at h,by simp⟩
 by_cases hn:noPick F level
 ·refine ⟨false,0,[],[],by simp,by simp,fun h=>(by cases h),fun A c w h=>?_,fun A c w h=>?_⟩
  ·refine (pick_none F A c level choice w hn).mono fun e w' ⟨he,hb⟩=>⟨none,0,none,0,he,nilRow _,nilRow _,hb⟩
  ·refine (refPick_none F A c level choice w hn).mono fun e w' ⟨he,hb⟩=>⟨none,0,none,0,he,nilRow _,nilRow _,hb⟩
 ·unfold noPick at hn
  simp only [not_or] at hn
  obtain ⟨n1,n2,n3⟩:=hn
  obtain ⟨lv,rfl⟩:∃ lv:Nat,level = (lv:Int):=⟨level.toNat,by omega⟩
  have hlv:lv < 3:=by omega
  have h0:F lv ≠ []:=by simpa using n3
  have hpos:0 < (F lv).length:=List.length_pos_iff.2 h0
  obtain ⟨x0,hx0⟩:∃ x,(F lv)[placeOf choice (F lv).length]? = some x:=⟨_,List.getElem?_eq_getElem (placeOf_lt choice hpos)⟩
  have hmem:x0 ∈ F lv:=List.mem_of_getElem? hx0
  have hp:=rightF_parts hG.right
  have hl:∀ i,(F i).length ≤ 100000:=fun i=>Nat.le_trans (hG.short i) hm
  have hok:∀ i,i < 4 → ∀ f ∈ F i,leB f.least f.most = true:=fun i hi f hf=>okB_le ((hp i hi).2.2 f hf)
  obtain ⟨U,hU,hUs⟩:=pickUp_there (lv:=lv) (hok lv (by omega)) hmem
  refine ⟨true,lv,U,over (F (lv + 1)) (loL U) (hiL U),Nat.le_trans hUs.length_le (hl lv),Nat.le_trans (List.length_filter_le _ _) (hl _),fun _=>rfl,fun A c w h=>?_,fun A c w h=>?_⟩
  ·have key:Calls Tryd.prog 40 #[.agg #[.slice (A 0) (F 0).length (c 0),.slice (A 1) (F 1).length (c 1),.slice (A 2) (F 2).length (c 2),.slice (A 3) (F 3).length (c 3)],.int .i64 lv,.int .i64 choice] w (PkPost w lv F x0):=by
    by_cases hz:lv = 0
    ·exact pick_top lv hz F A c choice x0 w h hl (hok 0 (by omega)) h0 hx0
    ·exact pick_low lv (by omega) hlv F A c choice x0 w h hl h0 hx0
   refine key.mono fun e w' ⟨up,vU,vL,hup,he,r1,r2,hb⟩=>?_
   have e1:=pickUp_one (hp lv (by omega)).2.1 hmem hU hup
   subst e1
   obtain ⟨B,d,rfl,q1,q2⟩:=r1
   obtain ⟨B',d',rfl,q3,q4⟩:=r2
   exact ⟨B,d,B',d',he,⟨B,d,rfl,q1,q2⟩,⟨B',d',rfl,q3,q4⟩,hb⟩
  ·refine (refPick_on lv hlv F A c choice x0 w h hl (hp lv (by omega)).2.1 h0 hx0).mono fun e w' ⟨T,vU,vL,hT,hS,he,r1,r2,hb⟩=>?_
   obtain ⟨e1,e2,e3⟩:=picks_same (hp lv (by omega)).2.1 hmem hU hS
   rw [e1] at r1
   rw [e2,e3] at r2
   obtain ⟨B,d,rfl,q1,q2⟩:=r1
   obtain ⟨B',d',rfl,q3,q4⟩:=r2
   exact ⟨B,d,B',d',he,⟨B,d,rfl,q1,q2⟩,⟨B',d',rfl,q3,q4⟩,hb⟩
theorem docFiles_on (A:Option Addr) (L:List FileV) (c:Nat) (w:World) (h:FilesAt w A L) (hl:L.length ≤ 1000000) (hc:L.length ≤ c) :
  Calls Tryd.prog 43 #[.slice A L.length c] w fun e w'=>∃ A5 c5,e = .returned (.slice A5 L.length c5) ∧ FilesAt w' A5 L ∧ L.length ≤ c5 ∧ RowKit.Below w.heap.size w w':=by
 have:=bourselaw13_files.calls 1000001 A c (L.map s97) _ w (filesAt_to97 h hl) (by simpa using hc) (files_eq L hl)
 rw [List.length_map] at this
 refine this.mono fun e w' ⟨v,he,hR,hb⟩=>?_
 obtain ⟨A5,c5,rfl,hle,hC⟩:=Kd.R_reads hR
 rw [List.length_map] at hC hle
 exact ⟨A5,c5,by rw [he,List.length_map],filesAt_of112 hC,hle,hb⟩
end Go.Proofs.YteilnbnnhocciaaDoor.V

/-! V55 -/
set_option linter.unusedVariables false
set_option linter.unusedSimpArgs false
namespace Go.Proofs.YteilnbnnhocciaaDoor.V
open Go.Proofs Go.Sort Go.Lib Go.RowKit Go.BigFrame Go.Proofs.YteilnbnnhocciaaDoorM Go.Proofs.YteilnbnnhocciaaDoorW.PrintWords Go.Proofs.YteilnbnnhocciaaDoorW.PrintLast Go.Proofs.YteilnbnnhocciaaDoorW.PrintMore Go.Proofs.YteilnbnnhocciaaDoor.KV
set_option maxHeartbeats 8000000 in
set_option maxRecDepth 100000 in
theorem picksLaw_on (A:Option Addr) (cap:Nat) (l:List S26) (level choice:Int) (w:World) (hA:Kd.C k26 w A l.length l) (hcap:l.length ≤ cap) (hx:∀ e ∈ l,e.f3.length ≤ 9223372036854775807) (hwf:∀ e ∈ l,∀ x ∈ e.f3,(Lit.int .u64 x.f1.f0).wf = true) :
  Calls Tryd.prog 10 #[.slice A l.length cap,.int .i64 level,.int .i64 choice] w fun e w'=>e = .returned (.bool true) ∧ RowKit.Below w.heap.size w w':=by
 obtain ⟨n,hn⟩:∃ n,n = l.length:=⟨_,rfl⟩
 have HN:=Hush.mk hn
 have HA:=Hush.mk hA
 have HCAP:=Hush.mk hcap
 have HX:=Hush.mk hx
 have HWF:=Hush.mk hwf
 rw [← hn]
 clear hn hA hcap hx hwf
 go_enter Tryd.func10,Tryd.ntmps10
 go_wp2_with fail
 refine (awake_on _).mono ?_
 rintro e w1 ⟨rfl,hb1⟩
 have HB1:Hush (RowKit.Below w.heap.size w w1):=⟨hb1⟩
 clear hb1
 go_wp2_with fail
 obtain ⟨b,hli,hbl⟩:=light_on A cap l w1 (Kd.C_below HA.out HB1.out) HCAP.out HX.out
 rw [← HN.out] at hli
 refine hli.mono ?_
 clear hli
 rintro e w2 ⟨rfl,hb2⟩
 have HB2:Hush (RowKit.Below w.heap.size w w2):=⟨HB1.out.trans (hb2.mono HB1.out.size)⟩
 clear hb2
 cases b with
 | false=>
  clear hbl
  go_wp2_with fail
  go_ret
  exact ⟨rfl,HB2.out⟩
 | true=>
  have HL:=Hush.mk (hbl rfl)
  clear hbl
  go_wp2_with fail
  obtain ⟨F,hF⟩:∃ F,F = playF l noneF:=⟨_,rfl⟩
  have hpl:=played_on A cap l w2 (Kd.C_below HA.out HB2.out) HCAP.out HL.out.1 HL.out.2 HWF.out
  rw [← hF,← HN.out] at hpl
  have HG:Hush (GoodF F 2000):=⟨by
   have h:=GoodF.play (m:=60) l GoodF.none (fun e he=>(HL.out.2 e he).1) HWF.out
   rw [← hF] at h
   exact ⟨h.right,fun i=>Nat.le_trans (h.short i) (by have:=HL.out.1;omega),h.wf⟩⟩
  clear hF
  refine hpl.mono ?_
  clear hpl
  rintro e w3 ⟨B,c,B',c',rfl,hv,hq,hb3⟩
  have HB3:Hush (RowKit.Below w.heap.size w w3):=⟨HB2.out.trans (hb3.mono HB2.out.size)⟩
  have HV:Hush (VerIn w3 F B c):=⟨fun i hi=>⟨(hv i hi).1.files,(hv i hi).2⟩⟩
  have HQ:=Hush.mk hq
  clear hb3 hv hq
  go_wp2_with fail
  obtain ⟨has,pl,UP,LOW,hU,hLo,hpl,h40,h41⟩:=picks_any F 2000 HG.out (by omega) level choice
  have H41:=Hush.mk h41
  have HUL:=Hush.mk (And.intro hU hLo)
  have HPL:=Hush.mk hpl
  clear h41 hU hLo hpl
  generalize hw4:((w3.alloc (.cells #[.slice (B 0) (F 0).length (c 0),.slice (B 1) (F 1).length (c 1),.slice (B 2) (F 2).length (c 2),.slice (B 3) (F 3).length (c 3)] 79)).alloc (.cells #[.slice (B' 0) (F 0).length (c' 0),.slice (B' 1) (F 1).length (c' 1),.slice (B' 2) (F 2).length (c' 2),.slice (B' 3) (F 3).length (c' 3)] 83)) = w4
  obtain ⟨fv,fq,hb4,hz4⟩:=two_boxes w3 (fun i=>.slice (B i) (F i).length (c i)) (fun i=>.slice (B' i) (F i).length (c' i)) 79 83 w4 hw4.symm
  have HB4:Hush (RowKit.Below w.heap.size w w4):=⟨HB3.out.trans (hb4.mono HB3.out.size)⟩
  have HV4:Hush (VerIn w4 F B c):=⟨HV.out.below hb4⟩
  have HQ4:Hush (VerIn w4 F B' c'):=⟨HQ.out.below hb4⟩
  have HFQ:=Hush.mk fq
  clear hw4 fv fq hb4 hz4
  refine (h40 B c w4 HV4.out).mono ?_
  clear h40
  rintro e w5 ⟨BU,dU,BL,dL,rfl,rU,rL,hb5⟩
  have HB5:Hush (RowKit.Below w.heap.size w w5):=⟨HB4.out.trans (hb5.mono HB4.out.size)⟩
  have HQ5:Hush (VerIn w5 F B' c'):=⟨HQ4.out.below hb5⟩
  have HFQ5:=Hush.mk (HFQ.out.below hb5)
  have HRU:=Hush.mk rU
  have HRL:=Hush.mk rL
  clear hb5 rU rL
  have hb6:RowKit.Below w5.heap.size w5 (w5.alloc (.cells #[.int .i64 pl,.slice BU UP.length dU,.slice BL LOW.length dL] 87)):=(RowKit.Below.refl _ _).alloc (Nat.le_refl _) _
  have HB6:Hush (RowKit.Below w5.heap.size w5 (w5.alloc (.cells #[.int .i64 pl,.slice BU UP.length dU,.slice BL LOW.length dL] 87))):=⟨hb6⟩
  have HP6:Hush (Three (w5.alloc (.cells #[.int .i64 pl,.slice BU UP.length dU,.slice BL LOW.length dL] 87)) w5.heap.size (.int .i64 pl) (.slice BU UP.length dU) (.slice BL LOW.length dL)):=⟨⟨87,World.alloc_heap_new w5 _⟩⟩
  have q0:=(HFQ5.out.below hb6).cell 0 (by omega)
  have q1:=(HFQ5.out.below hb6).cell 1 (by omega)
  have q2:=(HFQ5.out.below hb6).cell 2 (by omega)
  have q3:=(HFQ5.out.below hb6).cell 3 (by omega)
  clear hb6
  go_wp2_with fail
  generalize w5.alloc (.cells #[.int .i64 pl,.slice BU UP.length dU,.slice BL LOW.length dL] 87) = w6 at HB6 HP6 ⊢
  clear q0 q1 q2 q3
  refine (H41.out B' c' w6 (HQ5.out.below HB6.out)).mono ?_
  rintro e w7 ⟨BU',dU',BL',dL',rfl,rU',rL',hb7⟩
  have HB57:Hush (RowKit.Below w5.heap.size w5 w7):=⟨HB6.out.trans (hb7.mono HB6.out.size)⟩
  have HP7:=Hush.mk (HP6.out.below hb7)
  have hp7:=HP7.out.cells
  have p70:=hp7.1
  have p71:=hp7.2.1
  have p72:=hp7.2.2.1
  obtain ⟨_,_,eU,fU,zU⟩:=HRU.out
  cases eU
  obtain ⟨_,_,eL,fL,zL⟩:=HRL.out
  cases eL
  obtain ⟨_,_,eU',fU',zU'⟩:=rU'
  cases eU'
  obtain ⟨_,_,eL',fL',zL'⟩:=rL'
  cases eL'
  have HZ:=Hush.mk (And.intro zU (And.intro zL (And.intro zU' zL')))
  have HF7:Hush (FilesAt w7 BU UP ∧ FilesAt w7 BL LOW ∧ FilesAt w7 BU' UP ∧ FilesAt w7 BL' LOW):=⟨⟨fU.below HB57.out,fL.below HB57.out,fU',fL'⟩⟩
  have HB7:Hush (RowKit.Below w.heap.size w w7):=⟨HB5.out.trans (HB57.out.mono HB5.out.size)⟩
  clear hb7 hp7 fU fL fU' fL' zU zL zU' zL'
  cases has with
  | false=>
   go_wp2_with fail
   refine (docFiles_on BU UP dU w7 HF7.out.1 (by have:=HUL.out.1;omega) HZ.out.1).mono ?_
   rintro e w8 ⟨A8,c8,rfl,f8,z8,hb8⟩
   go_wp2_with fail
   refine (refSame_on A8 BU' UP c8 dU' w8 f8 (HF7.out.2.2.1.below hb8) (by have:=HUL.out.1;omega) z8 HZ.out.2.2.1).mono ?_
   rintro e w9 ⟨rfl,hb9⟩
   have HB79:Hush (RowKit.Below w7.heap.size w7 w9):=⟨hb8.trans (hb9.mono hb8.size)⟩
   clear hb8 hb9 f8 z8 p70 p71 p72
   have hp9:=(HP7.out.below HB79.out).cells
   have p90:=hp9.1
   have p92:=hp9.2.2.1
   clear hp9
   go_wp2_with fail
   refine (docFiles_on BL LOW dL w9 (HF7.out.2.1.below HB79.out) (by have:=HUL.out.2;omega) HZ.out.2.1).mono ?_
   rintro e w10 ⟨A10,c10,rfl,f10,z10,hb10⟩
   go_wp2_with fail
   refine (refSame_on A10 BL' LOW c10 dL' w10 f10 ((HF7.out.2.2.2.below HB79.out).below hb10) (by have:=HUL.out.2;omega) z10 HZ.out.2.2.2).mono ?_
   rintro e w11 ⟨rfl,hb11⟩
   have HB911:Hush (RowKit.Below w9.heap.size w9 w11):=⟨hb10.trans (hb11.mono hb10.size)⟩
   clear hb10 hb11 f10 z10 p90 p92
   have p110:=((HP7.out.below HB79.out).below HB911.out).cells.1
   have HBE:Hush (RowKit.Below w.heap.size w w11):=⟨HB7.out.trans ((HB79.out.trans (HB911.out.mono HB79.out.size)).mono HB7.out.size)⟩
   go_wp2_with fail
   go_ret
   exact ⟨by simp,HBE.out⟩
  | true=>
   have hpl:=HPL.out rfl
   subst hpl
   go_wp2_with fail
   refine (docFiles_on BU UP dU w7 HF7.out.1 (by have:=HUL.out.1;omega) HZ.out.1).mono ?_
   rintro e w8 ⟨A8,c8,rfl,f8,z8,hb8⟩
   go_wp2_with fail
   refine (refSame_on A8 BU' UP c8 dU' w8 f8 (HF7.out.2.2.1.below hb8) (by have:=HUL.out.1;omega) z8 HZ.out.2.2.1).mono ?_
   rintro e w9 ⟨rfl,hb9⟩
   have HB79:Hush (RowKit.Below w7.heap.size w7 w9):=⟨hb8.trans (hb9.mono hb8.size)⟩
   clear hb8 hb9 f8 z8 p70 p71 p72
   have hp9:=(HP7.out.below HB79.out).cells
   have p90:=hp9.1
   have p92:=hp9.2.2.1
   clear hp9
   go_wp2_with fail
   refine (docFiles_on BL LOW dL w9 (HF7.out.2.1.below HB79.out) (by have:=HUL.out.2;omega) HZ.out.2.1).mono ?_
   rintro e w10 ⟨A10,c10,rfl,f10,z10,hb10⟩
   go_wp2_with fail
   refine (refSame_on A10 BL' LOW c10 dL' w10 f10 ((HF7.out.2.2.2.below HB79.out).below hb10) (by have:=HUL.out.2;omega) z10 HZ.out.2.2.2).mono ?_
   rintro e w11 ⟨rfl,hb11⟩
   have HB911:Hush (RowKit.Below w9.heap.size w9 w11):=⟨hb10.trans (hb11.mono hb10.size)⟩
   clear hb10 hb11 f10 z10 p90 p92
   have p110:=((HP7.out.below HB79.out).below HB911.out).cells.1
   have HBE:Hush (RowKit.Below w.heap.size w w11):=⟨HB7.out.trans ((HB79.out.trans (HB911.out.mono HB79.out.size)).mono HB7.out.size)⟩
   go_wp2_with fail
   go_ret
   exact ⟨by simp,HBE.out⟩
end Go.Proofs.YteilnbnnhocciaaDoor.V

/-! V56 -/
set_option linter.unusedVariables false
namespace Go.Proofs.YteilnbnnhocciaaDoor.V
open Go.ChangeShapes Go.WideShapes Go.ChangeAt Go.RowKit Go.Lib Go.Shelf
open Go.ChangeMaps (open_string shut_string)
open Go.Proofs.YteilnbnnhocciaaDoorM Go.Proofs.YteilnbnnhocciaaDoorW.PrintWords Go.Proofs.YteilnbnnhocciaaDoor.KV
theorem picks_laid (os:Os) (args:Array Value):laidMet Tryd.prog Rows.versionPicksRow.laid ((laidWorld os).forCall (fun _ _=>0) ⟨#[],args,[]⟩).memory:=
 (LaidIn.of_run [2,4,5] 8 (by kernel_rfl) (by kernel_rfl) (by kernel_rfl) (by kernel_rfl)).met
section
attribute [local irreducible] Opens OpensF
set_option maxRecDepth 10000
theorem opens107:Opens Tryd.prog 107 k107 (fun x=>(Lit.int .u64 x.f1.f0).wf = true):=by
 unfold k107
 refine (Opens.iso (opens_struct Tryd.underlying107 (by kernel_rfl) (opensF_cons (opens_int Tryd.underlying3) rfl (by kernel_rfl) (opensF_one opens97 rfl (by kernel_rfl)))) _ (fun a=>⟨a.1,a.2⟩) (fun _=>rfl)).good ?_
 rintro x ⟨_,h1,_⟩
 exact h1
theorem opens111:Opens Tryd.prog 111 k111 (fun _=>True):=by
 unfold k111
 refine (Opens.iso (opens_struct Tryd.underlying111 (by kernel_rfl) (opensF_cons (opens_int Tryd.underlying3) rfl (by kernel_rfl) (opensF_one (opens_int Tryd.underlying22) rfl (by kernel_rfl)))) _ (fun a=>⟨a.1,a.2⟩) (fun _=>rfl)).good ?_
 rintro x _
 trivial
theorem opens26:Opens Tryd.prog 26 k26 (fun x=>∀ a ∈ x.f3,(Lit.int .u64 a.f1.f0).wf = true):=by
 unfold k26
 refine (Opens.iso (opens_struct Tryd.underlying26 (by kernel_rfl) (opensF_cons (opens_int Tryd.underlying22) rfl (by kernel_rfl) (opensF_cons (opens_int Tryd.underlying22) rfl (by kernel_rfl) (opensF_cons (opens_int Tryd.underlying22) rfl (by kernel_rfl)
  (opensF_cons (opens_slice Tryd.underlying23 (by kernel_rfl) opens107) rfl (by kernel_rfl) (opensF_one (opens_slice Tryd.underlying24 (by kernel_rfl) opens111) rfl (by kernel_rfl))))))) _ (fun a=>⟨a.1,a.2.1,a.2.2.1,a.2.2.2.1,a.2.2.2.2⟩) (fun _=>rfl)).good ?_
 rintro x ⟨_,_,_,h1,_⟩
 exact h1
theorem opens74:Opens Tryd.prog 74 (Kd.slice 26 k26) (fun l=>∀ e ∈ l,∀ a ∈ e.f3,(Lit.int .u64 a.f1.f0).wf = true):=opens_slice Tryd.underlying74 (by kernel_rfl) opens26
end
set_option maxRecDepth 100000 in
theorem open74 {H:Type} {enc:TypeId × Value → H} {W:World} {base base':Nat} {sp:Nat → Bool} {held:Bool} {v:Value} {d:DataW H} {p:List MemPlace}
  (hv:Value.okWide Tryd.prog W .any base 74 v) (h:DataW.Trod enc Tryd.prog W base' sp held 74 v d p) :
  ∃ (A:Option Addr) (l:List S26) (c:Nat),v = .slice A l.length c ∧ Kd.C k26 W A l.length l ∧ l.length ≤ c ∧ (∀ e ∈ l,e.f3.length ≤ 9223372036854775807) ∧ ∀ e ∈ l,∀ a ∈ e.f3,(Lit.int .u64 a.f1.f0).wf = true:=by
 obtain ⟨m,hm⟩:=h
 obtain ⟨l,hK,hG⟩:=opens74 enc W base' sp held m _ _ hm
 obtain ⟨A,c,hcs,hl,hC⟩:=hK
 obtain ⟨A',len',c',rfl⟩:=okWide_slice Tryd.underlying74 hv
 simp [Value.cells] at hcs
 obtain ⟨rfl,rfl,rfl⟩:=hcs
 refine ⟨_,l,c',rfl,hC,hl,fun e he=>?_,hG⟩
 obtain ⟨j,hj,e1⟩:=List.mem_iff_getElem.1 he
 obtain ⟨ad,A3,c3,A4,c4,_,_,_,_,_,_,_,h3,_⟩:=k26_row hC (j:=j) (e:=e) (by rw [List.getElem?_eq_getElem hj,e1])
 exact h3.2.1
set_option maxRecDepth 100000 in
theorem picks_lifted (os:Os) (started:os.Started) (H:Type) (enc:TypeId × Value → H) :
  ReturnsInHanded {} Tryd.checked os 10 .any (fun w args=>(Rows.versionPicksSpec.pre enc Tryd.prog Tryd.f10 [] false w args ∧ laidMet Tryd.prog Rows.versionPicksRow.laid w) ∧ sizedMet enc Tryd.prog Tryd.f10 (OpenSpec.ofChange Rows.versionPicksSpec) false w args)
   (Rows.versionPicksSpec.post enc Tryd.prog Tryd.f10 false true false false):=by
 refine returnsInHanded_of_change_and (C:=Tryd.checked) (X:=fun w _=>laidMet Tryd.prog Rows.versionPicksRow.laid w) (fun _ _ _ hh h=>h.of_heap hh) own started (by kernel_rfl) Tryd.func10
  (ChangeSpec.witness_at (enc:=enc) (C:=Tryd.checked) (os:=os) (X:=fun w _=>laidMet Tryd.prog Rows.versionPicksRow.laid w) false (laidWorld os)
   #[.slice none 0 0,.int .i64 0,.int .i64 0] 8
   rfl (by kernel_rfl) (by kernel_rfl) (by kernel_rfl) (by kernel_rfl) (by kernel_rfl) (picks_laid os _)) ?_
 intro W base args ds gs before hval0 hW hcnd hsz0 _ _
 have hval:∀ (j:Nat) t v,Tryd.f10.params[j]? = some t → args[j]? = some v → Value.okWide Tryd.prog W .any base t v:=hval0
 have hW':=hW
 obtain ⟨p,q,hA0,hV,rfl,hfz,hnd⟩:=hW
 have hA:DataW.TrodAll enc Tryd.prog W 0 (fun _=>true) true Tryd.f10.params.toList args.toList ds p:=hA0
 rw [Tryd.params10] at hA hval
 obtain ⟨v0,v1,v2,d0,d1,d2,p0,p1,p2,rfl,rfl,rfl,h0,h1,h2⟩:=trodAll_three hA
 obtain ⟨rfl,rfl⟩:=trodVars_none hV
 have hk0:=h0
 have lt0:∀ x ∈ p0,x.block < W.heap.size:=by obtain ⟨m,hm⟩:=hk0;exact DataW.trod_lt m _ _ _ hm
 obtain ⟨A,l,c,rfl,g1,g2,g3,g4⟩:=open74 (hval 0 74 v0 rfl rfl) h0
 obtain ⟨n,rfl,rfl,rfl,hn⟩:=open_int Tryd.underlying3 (hval 1 3 v1 rfl rfl) h1
 obtain ⟨k,rfl,rfl,rfl,hk⟩:=open_int Tryd.underlying3 (hval 2 3 v2 rfl rfl) h2
 clear hA0 hval0 hsz0
 refine (picksLaw_on A c l n k W g1 g2 g3 g4).mono ?_
 rintro r W' ⟨rfl,bel⟩
 exact ⟨_,rfl,_,_,_,[],_,[],hW',trodAll_mk1 (shut_bool Tryd.underlying4 _),(trodAll_cons_mk (Below.trod laidOut (by kernel_rfl) (of_decide_eq_true (by kernel_rfl)) hk0 bel lt0) (trodAll_cons_mk (shut_int Tryd.underlying3 hn) (trodAll_cons_mk (shut_int Tryd.underlying3 hk) trodAll_mk0))),rfl,bel.frame _,fun h=>by cases h⟩
set_option maxRecDepth 100000 in
theorem picks_over:Rows.versionPicksRow.holds Tryd.pinned (OpenSpec.ofChange Rows.versionPicksSpec):=
 OpenClaim.holds_of_wide 10 Tryd.f10 rfl rfl rfl rfl rfl rfl rfl ⟨rfl,rfl,rfl,rfl,rfl⟩ rfl rfl rfl rfl rfl (by kernel_rfl) Tryd.func10 (by kernel_rfl) (of_decide_eq_true (by kernel_rfl))
  (by unfold Func.isWrapper;first | (rw [if_pos (by decide +kernel)];kernel_rfl) | (rw [if_neg (by decide +kernel)];exact ⟨rfl,rfl⟩))
  (fun os started H enc _=>picks_lifted os started H enc)
end Go.Proofs.YteilnbnnhocciaaDoor.V
namespace Go.Proofs.YteilnbnnhocciaaDoor
theorem versionPicks_holds:Rows.VersionPicksSaid:=V.picks_over
end Go.Proofs.YteilnbnnhocciaaDoor

/-! V57 -/
namespace Go.Proofs.YteilnbnnhocciaaDoor
open Go
theorem versionPicksCard_holds:Rows.VersionPicksCardSaid:=
 Claim7.holds_tied_plain_at .later [] [.data,.data,.data] true (true, "bc9cca30e6bcb58c3d7b40caaba0da34bdf01bc2fab1082ae4b270bbcf37ee66") true
  versionPicks_holds (fun _ h=>by cases h) (by kernel_rfl) (fun _ h=>by cases h) versionPicks_row_tie rfl ⟨rfl,rfl⟩ (by kernel_rfl) rfl
  (fun f fn hf hfn=>by
   obtain rfl:f = 10:=Option.some.inj ((show Tryd.prog.funcNamed "bourse/bourselaw13.VersionPicks" = some 10 by kernel_rfl).symm.trans hf) |>.symm
   obtain rfl:fn = Tryd.f10:=(Option.some.inj (Tryd.func10.symm.trans hfn)).symm
   exact ⟨by kernel_rfl,fun j t ht=>by
    rw [Tryd.params10] at ht
    have h3:t = 74 ∨ t = 3:=by
     rcases j with _ | _ | _ | j
     ·exact .inl (by simpa using ht.symm)
     ·exact .inr (by simpa using ht.symm)
     ·exact .inr (by simpa using ht.symm)
     ·simp at ht
    rcases h3 with rfl | rfl
    ·exact (show Tryd.prog.wantsStandIn 74 = false by kernel_rfl)
    ·exact (show Tryd.prog.wantsStandIn 3 = false by kernel_rfl)⟩)
  (by kernel_rfl)
#print axioms versionPicksCard_holds
end Go.Proofs.YteilnbnnhocciaaDoor
